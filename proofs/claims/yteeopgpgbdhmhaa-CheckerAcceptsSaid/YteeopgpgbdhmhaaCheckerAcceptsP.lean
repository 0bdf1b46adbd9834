/- For every input the law CheckerAccepts returns true, and each argument reads behind the call as it read before. Conditions: none. -/
import Derived.Test.YteeopgpgbdhmhaaRows
import Derived.WalkKit
import Derived.ProofKit
import Derived.OpenShut
import Derived.SizedLaws
import Derived.Test.YteeopgpgbdhmhaaNin5
namespace Go.Proofs.Yteeopgpgbdhmhaa
open Go.RowKit
set_option linter.unusedVariables false
set_option linter.unusedSimpArgs false
attribute [local irreducible] wpList wpO H wpQuiet wpStill Code.wp Exit.then Exit.inBlock bodyPost Code.rounds Calls valid sameKey conflict lessV hless num between
set_option maxRecDepth 4000 in
set_option maxHeartbeats 1000000 in
theorem c48x (v : Value) (xs : List Sg) (w : World) (h : Ls cS w.heap.size w v xs) : Calls Try.prog 48 [v].toArray w (Ret w (cut60 v xs.length)) := by
  refine enter Try.func48 Try.ntmps48 rfl rfl ?_
  have hE := Ext.refl w
  refine wp_seq ?_
  refine W_region ?_
  refine L (D_v (R_assign rfl) ?_)
  refine S_nil ?_
  refine T_tn ?_
  refine wp_seq ?_
  refine wp_seq ?_
  refine W_region ?_
  refine L (D_v (R_move rfl) ?_)
  refine L (D_v (R_len Try.underlying46 rfl (h.ext hE).1) ?_)
  refine L (D_v (R_gtrI rfl rfl) ?_)
  refine S_nil ?_
  refine T_tn ?_
  refine W_if rfl (fun c1 => ?_) (fun c1 => ?_)
  ·
    have lk : 60 < xs.length := by simp at c1; omega
    refine wp_seq ?_
    refine W_region ?_
    refine L (D_v (R_move rfl) ?_)
    refine L (D_v (R_sliceHi (j := 60) Try.underlying46 Try.sizeOf53 rfl rfl (h.ext hE).1 (by (try simp only [List.length_take, List.length_drop, List.length_append, List.length_cons, List.length_nil, List.length_replicate, List.length_set, Nm.b_len, be2_len]); omega)) ?_)
    refine L (D_v (R_assign rfl) ?_)
    refine S_nil ?_
    refine T_tn ?_
    refine wp_ret ?_
    refine T_tr ?_
    refine ret1 (v := _) rfl rfl ⟨?_, hE⟩
    unfold cut60; rw [if_pos lk]; rfl
  ·
    have lk : ¬ 60 < xs.length := by simp at c1; omega
    refine wp_skip ?_
    refine T_tn ?_
    refine wp_seq ?_
    refine W_region ?_
    refine L (D_v (R_move rfl) ?_)
    refine L (D_v (R_assign rfl) ?_)
    refine S_nil ?_
    refine T_tn ?_
    refine wp_ret ?_
    refine ret1 (v := _) rfl rfl ⟨?_, hE⟩
    unfold cut60; rw [if_neg lk]; rfl
set_option maxRecDepth 4000 in
set_option maxHeartbeats 4000000 in
theorem c25 (vk : Value) (keys : List Nm) (v : Value) (xs : List Sg) (w : World) (hk : Ls cN w.heap.size w vk keys) (hs1 : SsIn w v xs) : Calls Try.prog 25 [vk, v].toArray w (Ret w (.bool true)) := by
  refine enter Try.func25 Try.ntmps25 rfl rfl ?_
  have hE := Ext.refl w
  have h1 := hs1.1
  have hcut1 := cut60_ls h1
  obtain ⟨X1, hX1⟩ : ∃ X, X = xs.take 60 := ⟨_, rfl⟩
  rw [← hX1] at hcut1
  have hXl1 : X1.length ≤ 60 := by rw [hX1, List.length_take]; omega
  have hwf : ∀ x ∈ X1, x.vote.wf := fun x hx => hs1.2 x (List.mem_of_mem_take (by rw [← hX1]; exact hx))
  refine wp_seq ?_
  refine W_region ?_
  refine L (D_v (R_assign rfl) ?_)
  refine S_nil ?_
  refine T_tn ?_
  refine wp_seq ?_
  refine W_region ?_
  refine L (D_v (R_move rfl) ?_)
  refine L (D_call (R_callF Try.call48 rfl rfl) (c48x v (xs) _ ((h1.ext hE).up2 (Nat.le_trans (Nat.le_refl _) hE.size))) (fun w2_1 e2_1 => ?_))
  replace hE := hE.trans e2_1
  refine L (D_v (R_assign rfl) ?_)
  refine S_nil ?_
  refine T_tn ?_
  refine wp_seq ?_
  refine W_region ?_
  refine L (D_v (R_move rfl) ?_)
  refine L (D_v (R_move rfl) ?_)
  refine L (D_callE (R_callF Try.call73 rfl rfl) (c73 vk (keys) w.heap.size (cut60 v (xs).length) (X1) _ ((hk.ext hE).lev fun _ _ _ => trivial) (Nat.le_trans (Nat.le_refl _) hE.size) (by (try simp only [List.length_take, List.length_drop, List.length_append, List.length_cons, List.length_nil, List.length_replicate, List.length_set, Nm.b_len, be2_len]); omega) (hcut1.ext hE)) (fun v3_2 w3_2 e3_2 p3_2 => ?_))
  obtain ⟨e3_2a, o3_2, pe3_2⟩ := p3_2
  replace o3_2 := o3_2.low hE.size
  replace hE := hE.trans e3_2
  have hel := evs_el pe3_2
  refine L (D_v (R_assign rfl) ?_)
  refine S_nil ?_
  refine T_tn ?_
  refine wp_seq ?_
  refine W_region ?_
  refine L (D_v (R_move rfl) ?_)
  refine L (D_callE (R_callF Try.call42 rfl rfl) (c42 v3_2 (e3_2a) _ o3_2.ls.es) (fun v4_1 w4_1 e4_1 p4_1 => ?_))
  obtain ⟨q4_1, rfl, o4_1⟩ := p4_1
  replace o4_1 := o4_1.lo hE.size
  replace hE := hE.trans e4_1
  replace o3_2 := o3_2.ext e4_1
  refine L (D_v (R_move rfl) ?_)
  refine L (D_v (R_extract rfl rfl) ?_)
  refine L (D_v (R_extract rfl rfl) ?_)
  refine L (D_v (R_assign rfl) ?_)
  refine L (D_v (R_assign rfl) ?_)
  refine S_nil ?_
  refine T_tn ?_
  refine wp_seq ?_
  refine wp_seq ?_
  refine W_region ?_
  refine L (D_v (R_move rfl) ?_)
  refine L (D_v (R_len Try.underlying42 rfl o3_2.ls.1) ?_)
  refine L (D_v (R_eqlI rfl rfl) ?_)
  refine S_nil ?_
  refine T_tn ?_
  refine W_if rfl (fun c1 => ?_) (fun c1 => ?_)
  ·
    have hl0 : e3_2a.length = 0 := len0 c1
    have hb0 : (build (e3_2a)).2 = false := by rw [build_none (.inl (by omega))]
    refine wp_seq ?_
    refine W_region ?_
    refine L (D_v (R_move rfl) ?_)
    refine L (D_v (R_not rfl) ?_)
    refine L (D_v (R_move rfl) ?_)
    refine L (D_gc1 rfl rfl (fun hb => R_callF Try.call44 rfl rfl) (fun hb => c44 _) (fun w6_3 e6_3 => ?_))
    replace hE := hE.trans e6_3
    refine L (D_v (R_pickA rfl rfl rfl) ?_)
    refine L (D_v (R_assign rfl) ?_)
    refine S_nil ?_
    refine T_tn ?_
    refine wp_ret ?_
    refine T_tr ?_
    refine ret1 (v := .bool _) rfl rfl ⟨congrArg (fun b => Ending.returned (Value.bool b)) ?_, hE⟩
    rw [hb0]; rfl
  ·
    have hl0 : 0 < e3_2a.length := len1 c1
    obtain ⟨ha1, ha2, ha3⟩ := acc_evs pe3_2 hwf hl0
    have hbl := build_len ha1
    have hgp := gk_pos pe3_2 hl0
    refine wp_skip ?_
    refine T_tn ?_
    refine wp_seq ?_
    refine W_region ?_
    refine L (D_v (R_move rfl) ?_)
    refine L (D_v (R_move rfl) ?_)
    refine L (D_call (R_callF Try.call45 rfl rfl) (c45 vk (keys) q4_1 ((build (e3_2a)).1) _ ((hk.ext hE).lev fun _ _ _ => trivial) o4_1.bs) (fun w6_2 e6_2 => ?_))
    replace hE := hE.trans e6_2
    replace o3_2 := o3_2.ext e6_2
    replace o4_1 := o4_1.ext e6_2
    refine L (D_v (R_move rfl) ?_)
    refine L (D_v (R_extract rfl rfl) ?_)
    refine L (D_v (R_extract rfl rfl) ?_)
    refine L (D_v (R_assign rfl) ?_)
    refine L (D_v (R_assign rfl) ?_)
    refine S_nil ?_
    refine T_tn ?_
    refine wp_seq ?_
    refine W_region ?_
    refine L (D_v (R_move rfl) ?_)
    refine L (D_v (R_move rfl) ?_)
    refine L (D_g1 rfl rfl (fun hb => R_move rfl) ?_)
    refine L (D_g1 rfl rfl (fun hb => R_eqlI (cgE hb) rfl) ?_)
    refine L (D_v (R_pickA rfl rfl rfl) ?_)
    refine L (D_v (R_move rfl) ?_)
    refine L (D_g1 rfl rfl (fun hb => R_move rfl) ?_)
    refine L (D_g1 rfl rfl (fun hb => R_move rfl) ?_)
    refine L (D_g1 rfl rfl (fun hb => R_move rfl) ?_)
    refine L (D_gc1 rfl rfl (fun hb => R_callF Try.call71 (mapv2 (cgE hb) (cgE hb)) rfl) (fun hb => c71 vk (keys) w.heap.size (cut60 v (xs).length) (X1) _ ((hk.ext hE).lev fun _ _ _ => trivial) (Nat.le_trans (Nat.le_refl _) hE.size) (by (try simp only [List.length_take, List.length_drop, List.length_append, List.length_cons, List.length_nil, List.length_replicate, List.length_set, Nm.b_len, be2_len]); omega) (hcut1.ext hE)) (fun w7_9 e7_9 => ?_))
    replace hE := hE.trans e7_9
    replace o3_2 := o3_2.ext e7_9
    replace o4_1 := o4_1.ext e7_9
    refine L (D_g1 rfl rfl (fun hb => R_eqlI (cgE hb) (cgE hb)) ?_)
    refine L (D_v (R_pickA rfl rfl rfl) ?_)
    refine L (D_v (R_move rfl) ?_)
    refine L (D_g1 rfl rfl (fun hb => R_move rfl) ?_)
    refine L (D_g1 rfl rfl (fun hb => R_neqI (cgE hb) rfl) ?_)
    refine L (D_v (R_pickA rfl rfl rfl) ?_)
    refine L (D_v (R_move rfl) ?_)
    refine L (D_g1 rfl rfl (fun hb => R_move rfl) ?_)
    refine L (D_g1 rfl rfl (fun hb => R_len Try.underlying31 (cgE hb) o4_1.bs) ?_)
    refine L (D_g1 rfl rfl (fun hb => R_move rfl) ?_)
    refine L (D_g1 rfl rfl (fun hb => R_len Try.underlying42 (cgE hb) o3_2.ls.1) ?_)
    refine L (D_g1 rfl rfl (fun hb => R_mulN (m := 786) (j := (e3_2a).length) rfl (cgE hb) (by first | ((try simp only [List.length_take, List.length_drop, List.length_append, List.length_cons, List.length_nil]); omega) | (simp at hb; omega))) ?_)
    refine L (D_g1 rfl rfl (fun hb => R_addN (m := 1) (j := (786 * (e3_2a).length)) rfl (cgE hb) (by first | ((try simp only [List.length_take, List.length_drop, List.length_append, List.length_cons, List.length_nil]); omega) | (simp at hb; omega))) ?_)
    refine L (D_g1 rfl rfl (fun hb => R_eqlI (cgE hb) (cgE hb)) ?_)
    refine L (D_v (R_pickA rfl rfl rfl) ?_)
    refine L (D_v (R_move rfl) ?_)
    refine L (D_gc1 rfl rfl (fun hb => R_callF Try.call44 rfl rfl) (fun hb => c44 _) (fun w7_26 e7_26 => ?_))
    replace hE := hE.trans e7_26
    replace o3_2 := o3_2.ext e7_26
    replace o4_1 := o4_1.ext e7_26
    refine L (D_v (R_pickA rfl rfl rfl) ?_)
    refine L (D_v (R_assign rfl) ?_)
    refine S_nil ?_
    refine T_tn ?_
    refine wp_ret ?_
    refine ret1 (v := .bool _) rfl rfl ⟨congrArg (fun b => Ending.returned (Value.bool b)) ?_, hE⟩
    rw [ha1, ha3, ha2]; simp; omega
end Go.Proofs.Yteeopgpgbdhmhaa
namespace Go.Proofs.Yteeopgpgbdhmhaa.checkerAccepts
open Go.ChangeShapes Go.WideShapes Go.ChangeAt Go.RowKit
set_option linter.unusedVariables false
set_option maxRecDepth 100000 in
theorem lifted (os : Os) (started : os.Started) (H : Type) (enc : TypeId × Value → H) :
    ReturnsInHanded {} Try.checked os 25 .any (Rows.checkerAcceptsSpec.pre6 enc Try.prog Try.f25 Rows.checkerAcceptsRow.domain false) (Rows.checkerAcceptsSpec.post enc Try.prog Try.f25 false true false false) := by
  refine returnsInHanded_of_change (C := Try.checked) own started (by kernel_rfl) Try.func25
    (ChangeSpec.witness6 (enc := enc) (C := Try.checked) false ⟨#[], #[.slice none 0 0, .slice none 0 0], []⟩ 8 (by kernel_rfl) (by kernel_rfl) (by kernel_rfl) (by kernel_rfl)) ?_
  intro W base args ds gs before hval0 hW hcnd _
  have hval : ∀ (j : Nat) t v, Try.f25.params[j]? = some t → args[j]? = some v → Value.okWide Try.prog W .any base t v := hval0
  have hW' := hW
  obtain ⟨p, q, hA0, hV, rfl, hfz, hnd⟩ := hW
  have hA : DataW.TrodAll enc Try.prog W 0 (fun _ => true) true Try.f25.params.toList args.toList ds p := hA0
  rw [Try.params25] at hA hval
  obtain ⟨v0, vs0, d0, ds0, p0, q0, hargs, rfl, rfl, h0, r0⟩ := trodAll_cons hA
  obtain ⟨v1, vs1, d1, ds1, p1, q1, rfl, rfl, rfl, h1, r1⟩ := trodAll_cons r0
  obtain ⟨rfl, rfl, rfl⟩ := trodAll_nil r1
  obtain rfl : args = #[v0, v1] := by cases args; simp_all
  obtain ⟨rfl, rfl⟩ := trodVars_none hV
  have k0 := h0
  have lt0 : ∀ x ∈ p0, x.block < W.heap.size := by obtain ⟨m, hm⟩ := k0; exact DataW.trod_lt m _ _ _ hm
  have k1 := h1
  have lt1 : ∀ x ∈ p1, x.block < W.heap.size := by obtain ⟨m, hm⟩ := k1; exact DataW.trod_lt m _ _ _ hm
  obtain ⟨a0, f0⟩ := open45 (hval 0 45 v0 rfl rfl) h0
  obtain ⟨a1, f1⟩ := open46 (hval 1 46 v1 rfl rfl) h1
  clear hA0 hval0
  refine (c25 v0 a0 v1 a1 W f0 f1).mono fun e W' ⟨he, bel⟩ => ?_
  subst he
  exact ⟨_, rfl, _, _, _, [], _, [], hW', trodAll_mk1 (shut_bool Try.underlying4 _), (trodAll_cons_mk (Below.trod laidOut (by kernel_rfl) (of_decide_eq_true (by kernel_rfl)) k0 bel lt0) (trodAll_cons_mk (Below.trod laidOut (by kernel_rfl) (of_decide_eq_true (by kernel_rfl)) k1 bel lt1) trodAll_mk0)), rfl, bel.frame _, fun h => by cases h⟩
theorem q0 : (Rows.checkerAcceptsRow.wf (OpenSpec.ofChange Rows.checkerAcceptsSpec)) = true := by kernel_rfl
theorem q3 : (Try.f25.params.all (Try.prog.readableRec ·)) = true := by kernel_rfl
theorem q4 : (namedTie Try.prog Rows.checkerAcceptsRow.named Rows.checkerAcceptsSpec.vars) = true := by kernel_rfl
theorem q5 : ((Rows.checkerAcceptsRow.stops == [])) = true := by kernel_rfl
theorem q7 : ((Rows.checkerAcceptsRow.knobs == [])) = true := by kernel_rfl
theorem q9 : ((Rows.checkerAcceptsRow.inPlace == Try.prog.inPlace 25)) = true := by kernel_rfl
theorem q10 : ((Rows.checkerAcceptsRow.unfollowed == Try.prog.unfollowed 25)) = true := by kernel_rfl
theorem q11 : ((Rows.checkerAcceptsRow.recurses == Try.prog.recurses 25)) = true := by kernel_rfl
theorem q12 : ((Rows.checkerAcceptsRow.named == Try.prog.varsNamed 25)) = true := by kernel_rfl
theorem q13 : ((Rows.checkerAcceptsRow.maps == (Try.f25.params.toList ++ Rows.checkerAcceptsSpec.plain.varTypes Try.prog).any (Try.prog.mapsRec ·))) = true := by kernel_rfl
theorem q14 : ((Rows.checkerAcceptsRow.ifaces == (Try.f25.params.toList ++ Rows.checkerAcceptsSpec.plain.varTypes Try.prog).any (Try.prog.ifacesRec ·))) = true := by kernel_rfl
theorem q15 : ((Rows.checkerAcceptsRow.mapsOut == Try.prog.mapsAmong Try.f25.resultTypes.toList)) = true := by kernel_rfl
theorem q16 : ((Rows.checkerAcceptsRow.loops == (Try.f25.params.toList ++ Rows.checkerAcceptsSpec.plain.varTypes Try.prog).any (Try.prog.loopsFrom ·))) = true := by kernel_rfl
theorem q17 : ((Rows.checkerAcceptsRow.wideKeys == (Try.f25.params.toList ++ Rows.checkerAcceptsSpec.plain.varTypes Try.prog ++ Try.f25.resultTypes.toList).any (Try.prog.wideKeysFrom ·))) = true := by kernel_rfl
theorem q18 : (Rows.checkerAcceptsSpec.vars.all (Try.prog.varReadable ·)) = true := by kernel_rfl
theorem q19 : (Try.f25.resultTypes.all (fun t => Try.prog.readableRec t && decide (t < Try.prog.types.size))) = true := by kernel_rfl
theorem q20 : ((Rows.checkerAcceptsRow.ifacesOut == Try.f25.resultTypes.toList.any (Try.prog.ifacesRec ·))) = true := by kernel_rfl
theorem q21 : ((Rows.checkerAcceptsRow.loopsOut == Try.f25.resultTypes.toList.any (Try.prog.loopsFrom ·))) = true := by kernel_rfl
theorem q22 : ((Rows.checkerAcceptsRow.plainKeys == Try.prog.plainKeys)) = true := fact_plainKeys
theorem q23 : (Rows.checkerAcceptsRow.shortTexts.isNone) = true := by kernel_rfl
theorem q26 : ((Rows.checkerAcceptsRow.lifted == Try.prog.liftsFinal)) = true := fact_liftsFinal
theorem q27 : ((Try.prog.make == some Rows.checkerAcceptsRow.make)) = true := fact_make
theorem q28 : ((Rows.checkerAcceptsRow.kinds == (if Rows.checkerAcceptsRow.domain.isEmpty then [] else Try.f25.params.toList.map fun t => match Try.prog.underlying t with | some (.int k) => some k | _ => none))) = true := by kernel_rfl
theorem q29 : ((Rows.checkerAcceptsRow.pinned == Rows.checkerAcceptsRow.pinnedBy)) = true := by kernel_rfl
theorem q30 : ((Rows.checkerAcceptsRow.veiled == (Try.f25.params.toList ++ Rows.checkerAcceptsSpec.plain.varTypes Try.prog ++ Try.f25.resultTypes.toList).any (Try.prog.veiledRec ·))) = true := by kernel_rfl
theorem q31 : (Rows.checkerAcceptsRow.veiledFits Try.prog Try.f25.params.toList (Try.f25.params.toList ++ Rows.checkerAcceptsSpec.plain.varTypes Try.prog ++ Try.f25.resultTypes.toList)) = true := by kernel_rfl
theorem qn : Try.prog.funcNamed Rows.checkerAcceptsRow.func = some 25 := by kernel_rfl
set_option maxRecDepth 100000 in
theorem closed : joinedFacts Try.prog 25 Try.f25 Rows.checkerAcceptsSpec Rows.checkerAcceptsRow = true := joined_of Try.prog 25 Try.f25 Rows.checkerAcceptsSpec Rows.checkerAcceptsRow q0 fact_laidOut fact_mapsRowed q3 q4 q5 fact_stops q7 fact_knobs q9 q10 q11 q12 q13 q14 q15 q16 q17 q18 q19 q20 q21 q22 q23 fact_heard fact_mayEnter q26 q27 q28 q29 q30 q31
theorem over : Rows.checkerAcceptsRow.holds Try.pinned (OpenSpec.ofChange Rows.checkerAcceptsSpec) :=
  OpenClaim.holds_of_wide 25 Try.f25 rfl rfl rfl rfl rfl rfl rfl ⟨rfl, rfl, rfl, rfl, rfl⟩ rfl rfl rfl rfl rfl qn Try.func25 closed
    (of_decide_eq_true (by kernel_rfl)) (by unfold Func.isWrapper; rw [if_neg (by decide +kernel)]; exact ⟨rfl, rfl⟩)
    (fun os started H enc _ => lifted os started H enc)
/-- THE STATEMENT -/
theorem proved : Rows.CheckerAcceptsSaid := over
#print axioms proved
end Go.Proofs.Yteeopgpgbdhmhaa.checkerAccepts
