/- For every input the law SignedVerifies returns true, and each argument reads behind the call as it read before. Conditions: none. -/
import Derived.Test.YteeopgpgbdhmhaaGreatRows
import Derived.WalkKit
import Derived.ProofKit
import Derived.OpenShut
import Derived.SizedLaws
import Derived.Test.YteeopgpgbdhmhaaGreatVer6
namespace Go.Proofs.YteeopgpgbdhmhaaGreat.signedVerifies
open Go.ChangeShapes Go.WideShapes Go.ChangeAt Go.RowKit
set_option linter.unusedVariables false
set_option maxRecDepth 100000 in
theorem lifted (os : Os) (started : os.Started) (H : Type) (enc : TypeId × Value → H) :
    ReturnsInHanded {} Tryz.checked os 4 .any (Rows.signedVerifiesSpec.pre6 enc Tryz.prog Tryz.f4 Rows.signedVerifiesRow.domain false) (Rows.signedVerifiesSpec.post enc Tryz.prog Tryz.f4 false true false false) := by
  refine returnsInHanded_of_change (C := Tryz.checked) own started (by kernel_rfl) Tryz.func4
    (ChangeSpec.witness6 (enc := enc) (C := Tryz.checked) false ⟨#[], #[.agg #[.int .u8 0, .int .u8 0, .int .u8 0, .int .u8 0, .int .u8 0, .int .u8 0, .int .u8 0, .int .u8 0], .agg #[.int .u8 0, .int .u8 0, .int .u8 0, .int .u8 0, .int .u8 0, .int .u8 0, .int .u8 0, .int .u8 0], .int .i64 0, .agg #[.int .i64 0, .int .i64 0, .int .i64 0, .int .i64 0, .int .i64 0, .int .i64 0, .int .u8 0, .int .u8 0, .int .u8 0, .int .u8 0, .int .u8 0, .int .u8 0, .int .u8 0, .int .u8 0, .int .u8 0, .int .u8 0, .int .u8 0, .int .u8 0, .int .u8 0, .int .u8 0, .int .u8 0, .int .u8 0], .agg #[.int .i64 0, .int .i64 0, .int .i64 0, .int .i64 0, .int .i64 0, .int .i64 0, .int .u8 0, .int .u8 0, .int .u8 0, .int .u8 0, .int .u8 0, .int .u8 0, .int .u8 0, .int .u8 0, .int .u8 0, .int .u8 0, .int .u8 0, .int .u8 0, .int .u8 0, .int .u8 0, .int .u8 0, .int .u8 0], .slice none 0 0, .int .i64 0, .int .u8 0], []⟩ 8 (by kernel_rfl) (by kernel_rfl) (by kernel_rfl) (by kernel_rfl)) ?_
  intro W base args ds gs before hval0 hW hcnd _
  have hval : ∀ (j : Nat) t v, Tryz.f4.params[j]? = some t → args[j]? = some v → Value.okWide Tryz.prog W .any base t v := hval0
  have hW' := hW
  obtain ⟨p, q, hA0, hV, rfl, hfz, hnd⟩ := hW
  have hA : DataW.TrodAll enc Tryz.prog W 0 (fun _ => true) true Tryz.f4.params.toList args.toList ds p := hA0
  rw [Tryz.params4] at hA hval
  obtain ⟨v0, vs0, d0, ds0, p0, q0, hargs, rfl, rfl, h0, r0⟩ := trodAll_cons hA
  obtain ⟨v1, vs1, d1, ds1, p1, q1, rfl, rfl, rfl, h1, r1⟩ := trodAll_cons r0
  obtain ⟨v2, vs2, d2, ds2, p2, q2, rfl, rfl, rfl, h2, r2⟩ := trodAll_cons r1
  obtain ⟨v3, vs3, d3, ds3, p3, q3, rfl, rfl, rfl, h3, r3⟩ := trodAll_cons r2
  obtain ⟨v4, vs4, d4, ds4, p4, q4, rfl, rfl, rfl, h4, r4⟩ := trodAll_cons r3
  obtain ⟨v5, vs5, d5, ds5, p5, q5, rfl, rfl, rfl, h5, r5⟩ := trodAll_cons r4
  obtain ⟨v6, vs6, d6, ds6, p6, q6, rfl, rfl, rfl, h6, r6⟩ := trodAll_cons r5
  obtain ⟨v7, vs7, d7, ds7, p7, q7, rfl, rfl, rfl, h7, r7⟩ := trodAll_cons r6
  obtain ⟨rfl, rfl, rfl⟩ := trodAll_nil r7
  obtain rfl : args = #[v0, v1, v2, v3, v4, v5, v6, v7] := by cases args; simp_all
  obtain ⟨rfl, rfl⟩ := trodVars_none hV
  have k0 := h0
  have lt0 : ∀ x ∈ p0, x.block < W.heap.size := by obtain ⟨m, hm⟩ := k0; exact DataW.trod_lt m _ _ _ hm
  have k1 := h1
  have lt1 : ∀ x ∈ p1, x.block < W.heap.size := by obtain ⟨m, hm⟩ := k1; exact DataW.trod_lt m _ _ _ hm
  have k2 := h2
  have lt2 : ∀ x ∈ p2, x.block < W.heap.size := by obtain ⟨m, hm⟩ := k2; exact DataW.trod_lt m _ _ _ hm
  have k3 := h3
  have lt3 : ∀ x ∈ p3, x.block < W.heap.size := by obtain ⟨m, hm⟩ := k3; exact DataW.trod_lt m _ _ _ hm
  have k4 := h4
  have lt4 : ∀ x ∈ p4, x.block < W.heap.size := by obtain ⟨m, hm⟩ := k4; exact DataW.trod_lt m _ _ _ hm
  have k5 := h5
  have lt5 : ∀ x ∈ p5, x.block < W.heap.size := by obtain ⟨m, hm⟩ := k5; exact DataW.trod_lt m _ _ _ hm
  have k6 := h6
  have lt6 : ∀ x ∈ p6, x.block < W.heap.size := by obtain ⟨m, hm⟩ := k6; exact DataW.trod_lt m _ _ _ hm
  have k7 := h7
  have lt7 : ∀ x ∈ p7, x.block < W.heap.size := by obtain ⟨m, hm⟩ := k7; exact DataW.trod_lt m _ _ _ hm
  obtain ⟨a0, rfl⟩ := open24 (hval 0 29 v0 rfl rfl) h0
  obtain ⟨a1, rfl⟩ := open24 (hval 1 29 v1 rfl rfl) h1
  obtain ⟨a2, rfl, _, _, g2⟩ := open_int Tryz.underlying3 (hval 2 3 v2 rfl rfl) h2
  have f2 := wf_i64 g2
  obtain ⟨a3, rfl, f3⟩ := open26 (hval 3 31 v3 rfl rfl) h3
  obtain ⟨a4, rfl, f4⟩ := open26 (hval 4 31 v4 rfl rfl) h4
  obtain ⟨a5, f5⟩ := open31 (hval 5 32 v5 rfl rfl) h5
  obtain ⟨a6, rfl, _, _, g6⟩ := open_int Tryz.underlying3 (hval 6 3 v6 rfl rfl) h6
  have f6 := wf_i64 g6
  obtain ⟨c7, rfl, _, _, g7⟩ := open_int Tryz.underlying5 (hval 7 5 v7 rfl rfl) h7
  obtain ⟨a7, e7⟩ := wf_u8 g7
  obtain rfl : c7 = (a7.toNat : Int) := by simpa [u8] using e7
  clear hA0 hval0
  refine (c904 a0 a1 a2 a3 a4 v5 a5 a6 a7 W f5).mono fun e W' ⟨he, bel⟩ => ?_
  subst he
  exact ⟨_, rfl, _, _, _, [], _, [], hW', trodAll_mk1 (shut_bool Tryz.underlying4 _), (trodAll_cons_mk (Below.trod laidOut (by kernel_rfl) (of_decide_eq_true (by kernel_rfl)) k0 bel lt0) (trodAll_cons_mk (Below.trod laidOut (by kernel_rfl) (of_decide_eq_true (by kernel_rfl)) k1 bel lt1) (trodAll_cons_mk (Below.trod laidOut (by kernel_rfl) (of_decide_eq_true (by kernel_rfl)) k2 bel lt2) (trodAll_cons_mk (Below.trod laidOut (by kernel_rfl) (of_decide_eq_true (by kernel_rfl)) k3 bel lt3) (trodAll_cons_mk (Below.trod laidOut (by kernel_rfl) (of_decide_eq_true (by kernel_rfl)) k4 bel lt4) (trodAll_cons_mk (Below.trod laidOut (by kernel_rfl) (of_decide_eq_true (by kernel_rfl)) k5 bel lt5) (trodAll_cons_mk (Below.trod laidOut (by kernel_rfl) (of_decide_eq_true (by kernel_rfl)) k6 bel lt6) (trodAll_cons_mk (Below.trod laidOut (by kernel_rfl) (of_decide_eq_true (by kernel_rfl)) k7 bel lt7) trodAll_mk0)))))))), rfl, bel.frame _, fun h => by cases h⟩
theorem q0 : (Rows.signedVerifiesRow.wf (OpenSpec.ofChange Rows.signedVerifiesSpec)) = true := by kernel_rfl
theorem q3 : (Tryz.f4.params.all (Tryz.prog.readableRec ·)) = true := by kernel_rfl
theorem q4 : (namedTie Tryz.prog Rows.signedVerifiesRow.named Rows.signedVerifiesSpec.vars) = true := by kernel_rfl
theorem q5 : ((Rows.signedVerifiesRow.stops == [])) = true := by kernel_rfl
theorem q7 : ((Rows.signedVerifiesRow.knobs == [])) = true := by kernel_rfl
theorem q9 : ((Rows.signedVerifiesRow.inPlace == Tryz.prog.inPlace 4)) = true := by kernel_rfl
theorem q10 : ((Rows.signedVerifiesRow.unfollowed == Tryz.prog.unfollowed 4)) = true := by kernel_rfl
theorem q11 : ((Rows.signedVerifiesRow.recurses == Tryz.prog.recurses 4)) = true := by kernel_rfl
theorem q12 : ((Rows.signedVerifiesRow.named == Tryz.prog.varsNamed 4)) = true := by kernel_rfl
theorem q13 : ((Rows.signedVerifiesRow.maps == (Tryz.f4.params.toList ++ Rows.signedVerifiesSpec.plain.varTypes Tryz.prog).any (Tryz.prog.mapsRec ·))) = true := by kernel_rfl
theorem q14 : ((Rows.signedVerifiesRow.ifaces == (Tryz.f4.params.toList ++ Rows.signedVerifiesSpec.plain.varTypes Tryz.prog).any (Tryz.prog.ifacesRec ·))) = true := by kernel_rfl
theorem q15 : ((Rows.signedVerifiesRow.mapsOut == Tryz.prog.mapsAmong Tryz.f4.resultTypes.toList)) = true := by kernel_rfl
theorem q16 : ((Rows.signedVerifiesRow.loops == (Tryz.f4.params.toList ++ Rows.signedVerifiesSpec.plain.varTypes Tryz.prog).any (Tryz.prog.loopsFrom ·))) = true := by kernel_rfl
theorem q17 : ((Rows.signedVerifiesRow.wideKeys == (Tryz.f4.params.toList ++ Rows.signedVerifiesSpec.plain.varTypes Tryz.prog ++ Tryz.f4.resultTypes.toList).any (Tryz.prog.wideKeysFrom ·))) = true := by kernel_rfl
theorem q18 : (Rows.signedVerifiesSpec.vars.all (Tryz.prog.varReadable ·)) = true := by kernel_rfl
theorem q19 : (Tryz.f4.resultTypes.all (fun t => Tryz.prog.readableRec t && decide (t < Tryz.prog.types.size))) = true := by kernel_rfl
theorem q20 : ((Rows.signedVerifiesRow.ifacesOut == Tryz.f4.resultTypes.toList.any (Tryz.prog.ifacesRec ·))) = true := by kernel_rfl
theorem q21 : ((Rows.signedVerifiesRow.loopsOut == Tryz.f4.resultTypes.toList.any (Tryz.prog.loopsFrom ·))) = true := by kernel_rfl
theorem q22 : ((Rows.signedVerifiesRow.plainKeys == Tryz.prog.plainKeys)) = true := fact_plainKeys
theorem q23 : (Rows.signedVerifiesRow.shortTexts.isNone) = true := by kernel_rfl
theorem q26 : ((Rows.signedVerifiesRow.lifted == Tryz.prog.liftsFinal)) = true := fact_liftsFinal
theorem q27 : ((Tryz.prog.make == some Rows.signedVerifiesRow.make)) = true := fact_make
theorem q28 : ((Rows.signedVerifiesRow.kinds == (if Rows.signedVerifiesRow.domain.isEmpty then [] else Tryz.f4.params.toList.map fun t => match Tryz.prog.underlying t with | some (.int k) => some k | _ => none))) = true := by kernel_rfl
theorem q29 : ((Rows.signedVerifiesRow.pinned == Rows.signedVerifiesRow.pinnedBy)) = true := by kernel_rfl
theorem q30 : ((Rows.signedVerifiesRow.veiled == (Tryz.f4.params.toList ++ Rows.signedVerifiesSpec.plain.varTypes Tryz.prog ++ Tryz.f4.resultTypes.toList).any (Tryz.prog.veiledRec ·))) = true := by kernel_rfl
theorem q31 : (Rows.signedVerifiesRow.veiledFits Tryz.prog Tryz.f4.params.toList (Tryz.f4.params.toList ++ Rows.signedVerifiesSpec.plain.varTypes Tryz.prog ++ Tryz.f4.resultTypes.toList)) = true := by kernel_rfl
theorem qn : Tryz.prog.funcNamed Rows.signedVerifiesRow.func = some 4 := by kernel_rfl
set_option maxRecDepth 100000 in
theorem closed : joinedFacts Tryz.prog 4 Tryz.f4 Rows.signedVerifiesSpec Rows.signedVerifiesRow = true := joined_of Tryz.prog 4 Tryz.f4 Rows.signedVerifiesSpec Rows.signedVerifiesRow q0 fact_laidOut fact_mapsRowed q3 q4 q5 fact_stops q7 fact_knobs q9 q10 q11 q12 q13 q14 q15 q16 q17 q18 q19 q20 q21 q22 q23 fact_heard fact_mayEnter q26 q27 q28 q29 q30 q31
theorem over : Rows.signedVerifiesRow.holds Tryz.pinned (OpenSpec.ofChange Rows.signedVerifiesSpec) :=
  OpenClaim.holds_of_wide 4 Tryz.f4 rfl rfl rfl rfl rfl rfl rfl ⟨rfl, rfl, rfl, rfl, rfl⟩ rfl rfl rfl rfl rfl qn Tryz.func4 closed
    (of_decide_eq_true (by kernel_rfl)) (by unfold Func.isWrapper; rw [if_neg (by decide +kernel)]; exact ⟨rfl, rfl⟩)
    (fun os started H enc _ => lifted os started H enc)
theorem proved : Rows.SignedVerifiesSaid := over
#print axioms proved
end Go.Proofs.YteeopgpgbdhmhaaGreat.signedVerifies
