/- For every input the law CheckerCuts returns true, and each argument reads behind the call as it read before. Conditions: none. -/
import Derived.Test.YteeopgpgbdhmhaaRows
import Derived.WalkKit
import Derived.ProofKit
import Derived.OpenShut
import Derived.SizedLaws
import Derived.Test.YteeopgpgbdhmhaaNin5
namespace Go.Proofs.Yteeopgpgbdhmhaa
open Go.RowKit
set_option linter.unusedVariables false
set_option linter.unusedSimpArgs false
attribute [local irreducible] wpList wpO H wpQuiet wpStill Code.wp Exit.then Exit.inBlock bodyPost Code.rounds Calls valid sameKey conflict lessV hless num between
set_option maxRecDepth 4000 in
set_option maxHeartbeats 1000000 in
theorem c48x (v : Value) (xs : List Sg) (w : World) (h : Ls cS w.heap.size w v xs) : Calls Try.prog 48 [v].toArray w (Ret w (cut60 v xs.length)) := by
  refine enter Try.func48 Try.ntmps48 rfl rfl ?_
  have hE := Ext.refl w
  refine wp_seq ?_
  refine W_region ?_
  refine L (D_v (R_assign rfl) ?_)
  refine S_nil ?_
  refine T_tn ?_
  refine wp_seq ?_
  refine wp_seq ?_
  refine W_region ?_
  refine L (D_v (R_move rfl) ?_)
  refine L (D_v (R_len Try.underlying46 rfl (h.ext hE).1) ?_)
  refine L (D_v (R_gtrI rfl rfl) ?_)
  refine S_nil ?_
  refine T_tn ?_
  refine W_if rfl (fun c1 => ?_) (fun c1 => ?_)
  ·
    have lk : 60 < xs.length := by simp at c1; omega
    refine wp_seq ?_
    refine W_region ?_
    refine L (D_v (R_move rfl) ?_)
    refine L (D_v (R_sliceHi (j := 60) Try.underlying46 Try.sizeOf53 rfl rfl (h.ext hE).1 (by (try simp only [List.length_take, List.length_drop, List.length_append, List.length_cons, List.length_nil, List.length_replicate, List.length_set, Nm.b_len, be2_len]); omega)) ?_)
    refine L (D_v (R_assign rfl) ?_)
    refine S_nil ?_
    refine T_tn ?_
    refine wp_ret ?_
    refine T_tr ?_
    refine ret1 (v := _) rfl rfl ⟨?_, hE⟩
    unfold cut60; rw [if_pos lk]; rfl
  ·
    have lk : ¬ 60 < xs.length := by simp at c1; omega
    refine wp_skip ?_
    refine T_tn ?_
    refine wp_seq ?_
    refine W_region ?_
    refine L (D_v (R_move rfl) ?_)
    refine L (D_v (R_assign rfl) ?_)
    refine S_nil ?_
    refine T_tn ?_
    refine wp_ret ?_
    refine ret1 (v := _) rfl rfl ⟨?_, hE⟩
    unfold cut60; rw [if_neg lk]; rfl
set_option maxRecDepth 4000 in
set_option maxHeartbeats 4000000 in
theorem c24 (vk : Value) (keys : List Nm) (v : Value) (xs : List Sg) (n : Int) (w : World) (hk : Ls cN w.heap.size w vk keys) (h1 : Ls cS w.heap.size w v xs) : Calls Try.prog 24 [vk, v, i64 n].toArray w (Ret w (.bool true)) := by
  refine enter Try.func24 Try.ntmps24 rfl rfl ?_
  have hE := Ext.refl w
  have hcut1 := cut60_ls h1
  obtain ⟨X1, hX1⟩ : ∃ X, X = xs.take 60 := ⟨_, rfl⟩
  rw [← hX1] at hcut1
  have hXl1 : X1.length ≤ 60 := by rw [hX1, List.length_take]; omega
  refine wp_seq ?_
  refine W_region ?_
  refine L (D_v (R_assign rfl) ?_)
  refine S_nil ?_
  refine T_tn ?_
  refine wp_seq ?_
  refine W_region ?_
  refine L (D_v (R_move rfl) ?_)
  refine L (D_v (R_move rfl) ?_)
  refine L (D_call (R_callF Try.call48 rfl rfl) (c48x v (xs) _ ((h1.ext hE).up2 (Nat.le_trans (Nat.le_refl _) hE.size))) (fun w2_2 e2_2 => ?_))
  replace hE := hE.trans e2_2
  refine L (D_callE (R_callF Try.call73 rfl rfl) (c73 vk (keys) w.heap.size (cut60 v (xs).length) (X1) _ ((hk.ext hE).lev fun _ _ _ => trivial) (Nat.le_trans (Nat.le_refl _) hE.size) (by (try simp only [List.length_take, List.length_drop, List.length_append, List.length_cons, List.length_nil, List.length_replicate, List.length_set, Nm.b_len, be2_len]); omega) (hcut1.ext hE)) (fun v2_3 w2_3 e2_3 p2_3 => ?_))
  obtain ⟨e2_3a, o2_3, pe2_3⟩ := p2_3
  replace o2_3 := o2_3.low hE.size
  replace hE := hE.trans e2_3
  have hel := evs_el pe2_3
  refine L (D_callE (R_callF Try.call42 rfl rfl) (c42 v2_3 (e2_3a) _ o2_3.ls.es) (fun v2_4 w2_4 e2_4 p2_4 => ?_))
  obtain ⟨q2_4, rfl, o2_4⟩ := p2_4
  replace o2_4 := o2_4.lo hE.size
  replace hE := hE.trans e2_4
  replace o2_3 := o2_3.ext e2_4
  refine L (D_v (R_move rfl) ?_)
  refine L (D_v (R_extract rfl rfl) ?_)
  refine L (D_v (R_extract rfl rfl) ?_)
  refine L (D_v (R_assign rfl) ?_)
  refine L (D_v (R_assign rfl) ?_)
  refine S_nil ?_
  refine T_tn ?_
  refine wp_seq ?_
  refine wp_seq ?_
  refine W_region ?_
  refine L (D_v (R_move rfl) ?_)
  refine L (D_v (R_not rfl) ?_)
  refine S_nil ?_
  refine T_tn ?_
  refine W_if rfl (fun c1 => ?_) (fun c1 => ?_)
  ·
    refine wp_seq ?_
    refine W_region ?_
    refine L (D_call (R_callF Try.call44 rfl rfl) (c44 _) (fun w4_0 e4_0 => ?_))
    replace hE := hE.trans e4_0
    refine L (D_v (R_assign rfl) ?_)
    refine S_nil ?_
    refine T_tn ?_
    refine wp_ret ?_
    refine T_tr ?_
    refine ret1 (v := .bool _) rfl rfl ⟨congrArg (fun b => Ending.returned (Value.bool b)) ?_, hE⟩
    rfl
  ·
    have hok : (build (e2_3a)).2 = true := by simpa using c1
    obtain ⟨hb0, hb1, hb2, hb3⟩ := build_head hok
    have hbl := build_len hok
    refine wp_skip ?_
    refine T_tn ?_
    refine wp_seq ?_
    refine W_region ?_
    refine L (D_v (R_move rfl) ?_)
    refine L (D_v (R_conv Try.runUnderlying3 Try.runUnderlying36 rfl) ?_)
    refine L (D_v (R_move rfl) ?_)
    refine L (D_v (R_len Try.underlying31 rfl o2_4.bs) ?_)
    refine L (D_v (R_conv Try.runUnderlying3 Try.runUnderlying36 rfl) ?_)
    have hix : (IntKind.wrap .u64 (n)).toNat % ((build (e2_3a)).1).length < ((build (e2_3a)).1).length := Nat.mod_lt _ (by (try simp only [List.length_take, List.length_drop, List.length_append, List.length_cons, List.length_nil, List.length_replicate, List.length_set, Nm.b_len, be2_len]); omega)
    refine L (D_v (R_remW (M := n) (L := ((build (e2_3a)).1).length) rfl rfl (by (try simp only [List.length_take, List.length_drop, List.length_append, List.length_cons, List.length_nil, List.length_replicate, List.length_set, Nm.b_len, be2_len]); omega) (by (try simp only [List.length_take, List.length_drop, List.length_append, List.length_cons, List.length_nil, List.length_replicate, List.length_set, Nm.b_len, be2_len]); omega)) ?_)
    refine L (D_v (R_convN (e := ((IntKind.wrap .u64 (n)).toNat % ((build (e2_3a)).1).length)) Try.runUnderlying36 Try.runUnderlying3 rfl (Nat.le_trans (Nat.le_of_lt hix) (by (try simp only [List.length_take, List.length_drop, List.length_append, List.length_cons, List.length_nil, List.length_replicate, List.length_set, Nm.b_len, be2_len]); omega))) ?_)
    refine L (D_v (R_assign rfl) ?_)
    refine S_nil ?_
    refine T_tn ?_
    refine wp_seq ?_
    refine W_region ?_
    refine L (D_v (R_move rfl) ?_)
    refine L (D_v (R_move rfl) ?_)
    refine L (D_v (R_move rfl) ?_)
    refine L (D_v (R_sliceHi (j := ((IntKind.wrap .u64 (n)).toNat % ((build (e2_3a)).1).length)) Try.underlying31 Try.sizeOf5 rfl rfl o2_4.bs (by (try simp only [List.length_take, List.length_drop, List.length_append, List.length_cons, List.length_nil, List.length_replicate, List.length_set, Nm.b_len, be2_len]); omega)) ?_)
    refine L (D_call (R_callF Try.call45 rfl rfl) (c45 vk (keys) (cutV q2_4 1 (0) (((IntKind.wrap .u64 (n)).toNat % ((build (e2_3a)).1).length))) (((((build (e2_3a)).1).drop (0)).take (((IntKind.wrap .u64 (n)).toNat % ((build (e2_3a)).1).length) - 0))) _ ((hk.ext hE).lev fun _ _ _ => trivial) (o2_4.bs.cut (by (try simp only [List.length_take, List.length_drop, List.length_append, List.length_cons, List.length_nil, List.length_replicate, List.length_set, Nm.b_len, be2_len]); omega) (by (try simp only [List.length_take, List.length_drop, List.length_append, List.length_cons, List.length_nil, List.length_replicate, List.length_set, Nm.b_len, be2_len]); omega))) (fun w5_4 e5_4 => ?_))
    replace hE := hE.trans e5_4
    replace o2_4 := o2_4.ext e5_4
    refine L (D_v (R_move rfl) ?_)
    refine L (D_v (R_extract rfl rfl) ?_)
    refine L (D_v (R_extract rfl rfl) ?_)
    refine L (D_v (R_assign rfl) ?_)
    refine L (D_v (R_assign rfl) ?_)
    refine S_nil ?_
    refine T_tn ?_
    refine wp_seq ?_
    refine W_region ?_
    refine L (D_v (R_move rfl) ?_)
    refine L (D_build0 Try.underlying31 Try.sizeOf5 (fun v6_1 w6_1 o6_1 e6_1 => ?_))
    have zq2_4_v6_1 := own_apart o2_4 o6_1
    have zv6_1_q2_4 := fun k hk hk2 => zq2_4_v6_1 k hk2 hk
    replace o6_1 := o6_1.lo hE.size
    replace hE := hE.trans e6_1
    replace o2_4 := o2_4.ext e6_1
    refine L (D_v (R_move rfl) ?_)
    refine L (D_appendB elt5 Try.underlying31 rfl rfl o6_1 o2_4.bs (by (try simp only [List.length_take, List.length_drop, List.length_append, List.length_cons, List.length_nil, List.length_replicate, List.length_set, Nm.b_len, be2_len]); omega) hE.size (fun v6_3 w6_3 o6_3 g6_3 => ?_))
    replace hE := hE.grown g6_3 (fun k hk => own_ge o6_1 hk)
    replace o2_4 := o2_4.grown g6_3 (zq2_4_v6_1)
    refine L (D_buildB (vs := [(0, u8 (0))]) (b := [0]) Try.underlying31 Try.sizeOf5 Try.zeroValue5 rfl (fillB1 _) rfl rfl rfl (fun v6_4 w6_4 o6_4 e6_4 => ?_))
    have zq2_4_v6_4 := own_apart o2_4 o6_4
    have zv6_4_q2_4 := fun k hk hk2 => zq2_4_v6_4 k hk2 hk
    have zv6_3_v6_4 := own_apart o6_3 o6_4
    have zv6_4_v6_3 := fun k hk hk2 => zv6_3_v6_4 k hk2 hk
    replace o6_4 := o6_4.lo hE.size
    replace hE := hE.trans e6_4
    replace o2_4 := o2_4.ext e6_4
    replace o6_3 := o6_3.ext e6_4
    refine L (D_appendB elt5 Try.underlying31 rfl rfl o6_3 o6_4.bs (by (try simp only [List.length_take, List.length_drop, List.length_append, List.length_cons, List.length_nil, List.length_replicate, List.length_set, Nm.b_len, be2_len]); omega) hE.size (fun v6_5 w6_5 o6_5 g6_5 => ?_))
    replace hE := hE.grown g6_5 (fun k hk => own_ge o6_3 hk)
    replace o6_4 := o6_4.grown g6_5 (zv6_4_v6_3)
    refine L (D_call (R_callF Try.call45 rfl rfl) (c45 vk (keys) v6_5 ((([] ++ (build (e2_3a)).1) ++ [0])) _ ((hk.ext hE).lev fun _ _ _ => trivial) o6_5.bs) (fun w6_6 e6_6 => ?_))
    replace hE := hE.trans e6_6
    replace o6_4 := o6_4.ext e6_6
    replace o6_5 := o6_5.ext e6_6
    refine L (D_v (R_move rfl) ?_)
    refine L (D_v (R_extract rfl rfl) ?_)
    refine L (D_v (R_extract rfl rfl) ?_)
    refine L (D_v (R_assign rfl) ?_)
    refine L (D_v (R_assign rfl) ?_)
    refine S_nil ?_
    refine T_tn ?_
    refine wp_seq ?_
    refine W_region ?_
    refine L (D_v (R_move rfl) ?_)
    refine L (D_v (R_eqlI rfl rfl) ?_)
    refine L (D_v (R_move rfl) ?_)
    refine L (D_g1 rfl rfl (fun hb => R_move rfl) ?_)
    refine L (D_g1 rfl rfl (fun hb => R_eqlI (cgE hb) rfl) ?_)
    refine L (D_v (R_pickA rfl rfl rfl) ?_)
    refine L (D_v (R_move rfl) ?_)
    refine L (D_gc1 rfl rfl (fun hb => R_callF Try.call44 rfl rfl) (fun hb => c44 _) (fun w7_7 e7_7 => ?_))
    replace hE := hE.trans e7_7
    refine L (D_v (R_pickA rfl rfl rfl) ?_)
    refine L (D_v (R_assign rfl) ?_)
    refine S_nil ?_
    refine T_tn ?_
    refine wp_ret ?_
    refine ret1 (v := .bool _) rfl rfl ⟨congrArg (fun b => Ending.returned (Value.bool b)) ?_, hE⟩
    first | rfl | (rw [take0, cut_short hok hix, List.nil_append, cut_long hok]; rfl)
end Go.Proofs.Yteeopgpgbdhmhaa
namespace Go.Proofs.Yteeopgpgbdhmhaa.checkerCuts
open Go.ChangeShapes Go.WideShapes Go.ChangeAt Go.RowKit
set_option linter.unusedVariables false
set_option maxRecDepth 100000 in
theorem lifted (os : Os) (started : os.Started) (H : Type) (enc : TypeId × Value → H) :
    ReturnsInHanded {} Try.checked os 24 .any (Rows.checkerCutsSpec.pre6 enc Try.prog Try.f24 Rows.checkerCutsRow.domain false) (Rows.checkerCutsSpec.post enc Try.prog Try.f24 false true false false) := by
  refine returnsInHanded_of_change (C := Try.checked) own started (by kernel_rfl) Try.func24
    (ChangeSpec.witness6 (enc := enc) (C := Try.checked) false ⟨#[], #[.slice none 0 0, .slice none 0 0, .int .i64 0], []⟩ 8 (by kernel_rfl) (by kernel_rfl) (by kernel_rfl) (by kernel_rfl)) ?_
  intro W base args ds gs before hval0 hW hcnd _
  have hval : ∀ (j : Nat) t v, Try.f24.params[j]? = some t → args[j]? = some v → Value.okWide Try.prog W .any base t v := hval0
  have hW' := hW
  obtain ⟨p, q, hA0, hV, rfl, hfz, hnd⟩ := hW
  have hA : DataW.TrodAll enc Try.prog W 0 (fun _ => true) true Try.f24.params.toList args.toList ds p := hA0
  rw [Try.params24] at hA hval
  obtain ⟨v0, vs0, d0, ds0, p0, q0, hargs, rfl, rfl, h0, r0⟩ := trodAll_cons hA
  obtain ⟨v1, vs1, d1, ds1, p1, q1, rfl, rfl, rfl, h1, r1⟩ := trodAll_cons r0
  obtain ⟨v2, vs2, d2, ds2, p2, q2, rfl, rfl, rfl, h2, r2⟩ := trodAll_cons r1
  obtain ⟨rfl, rfl, rfl⟩ := trodAll_nil r2
  obtain rfl : args = #[v0, v1, v2] := by cases args; simp_all
  obtain ⟨rfl, rfl⟩ := trodVars_none hV
  have k0 := h0
  have lt0 : ∀ x ∈ p0, x.block < W.heap.size := by obtain ⟨m, hm⟩ := k0; exact DataW.trod_lt m _ _ _ hm
  have k1 := h1
  have lt1 : ∀ x ∈ p1, x.block < W.heap.size := by obtain ⟨m, hm⟩ := k1; exact DataW.trod_lt m _ _ _ hm
  have k2 := h2
  have lt2 : ∀ x ∈ p2, x.block < W.heap.size := by obtain ⟨m, hm⟩ := k2; exact DataW.trod_lt m _ _ _ hm
  obtain ⟨a0, f0⟩ := open45 (hval 0 45 v0 rfl rfl) h0
  obtain ⟨a1, f1⟩ := open46 (hval 1 46 v1 rfl rfl) h1
  obtain ⟨a2, rfl, _, _, g2⟩ := open_int Try.underlying3 (hval 2 3 v2 rfl rfl) h2
  have f2 := wf_i64 g2
  clear hA0 hval0
  refine (c24 v0 a0 v1 a1 a2 W f0 f1.1).mono fun e W' ⟨he, bel⟩ => ?_
  subst he
  exact ⟨_, rfl, _, _, _, [], _, [], hW', trodAll_mk1 (shut_bool Try.underlying4 _), (trodAll_cons_mk (Below.trod laidOut (by kernel_rfl) (of_decide_eq_true (by kernel_rfl)) k0 bel lt0) (trodAll_cons_mk (Below.trod laidOut (by kernel_rfl) (of_decide_eq_true (by kernel_rfl)) k1 bel lt1) (trodAll_cons_mk (Below.trod laidOut (by kernel_rfl) (of_decide_eq_true (by kernel_rfl)) k2 bel lt2) trodAll_mk0))), rfl, bel.frame _, fun h => by cases h⟩
theorem q0 : (Rows.checkerCutsRow.wf (OpenSpec.ofChange Rows.checkerCutsSpec)) = true := by kernel_rfl
theorem q3 : (Try.f24.params.all (Try.prog.readableRec ·)) = true := by kernel_rfl
theorem q4 : (namedTie Try.prog Rows.checkerCutsRow.named Rows.checkerCutsSpec.vars) = true := by kernel_rfl
theorem q5 : ((Rows.checkerCutsRow.stops == [])) = true := by kernel_rfl
theorem q7 : ((Rows.checkerCutsRow.knobs == [])) = true := by kernel_rfl
theorem q9 : ((Rows.checkerCutsRow.inPlace == Try.prog.inPlace 24)) = true := by kernel_rfl
theorem q10 : ((Rows.checkerCutsRow.unfollowed == Try.prog.unfollowed 24)) = true := by kernel_rfl
theorem q11 : ((Rows.checkerCutsRow.recurses == Try.prog.recurses 24)) = true := by kernel_rfl
theorem q12 : ((Rows.checkerCutsRow.named == Try.prog.varsNamed 24)) = true := by kernel_rfl
theorem q13 : ((Rows.checkerCutsRow.maps == (Try.f24.params.toList ++ Rows.checkerCutsSpec.plain.varTypes Try.prog).any (Try.prog.mapsRec ·))) = true := by kernel_rfl
theorem q14 : ((Rows.checkerCutsRow.ifaces == (Try.f24.params.toList ++ Rows.checkerCutsSpec.plain.varTypes Try.prog).any (Try.prog.ifacesRec ·))) = true := by kernel_rfl
theorem q15 : ((Rows.checkerCutsRow.mapsOut == Try.prog.mapsAmong Try.f24.resultTypes.toList)) = true := by kernel_rfl
theorem q16 : ((Rows.checkerCutsRow.loops == (Try.f24.params.toList ++ Rows.checkerCutsSpec.plain.varTypes Try.prog).any (Try.prog.loopsFrom ·))) = true := by kernel_rfl
theorem q17 : ((Rows.checkerCutsRow.wideKeys == (Try.f24.params.toList ++ Rows.checkerCutsSpec.plain.varTypes Try.prog ++ Try.f24.resultTypes.toList).any (Try.prog.wideKeysFrom ·))) = true := by kernel_rfl
theorem q18 : (Rows.checkerCutsSpec.vars.all (Try.prog.varReadable ·)) = true := by kernel_rfl
theorem q19 : (Try.f24.resultTypes.all (fun t => Try.prog.readableRec t && decide (t < Try.prog.types.size))) = true := by kernel_rfl
theorem q20 : ((Rows.checkerCutsRow.ifacesOut == Try.f24.resultTypes.toList.any (Try.prog.ifacesRec ·))) = true := by kernel_rfl
theorem q21 : ((Rows.checkerCutsRow.loopsOut == Try.f24.resultTypes.toList.any (Try.prog.loopsFrom ·))) = true := by kernel_rfl
theorem q22 : ((Rows.checkerCutsRow.plainKeys == Try.prog.plainKeys)) = true := fact_plainKeys
theorem q23 : (Rows.checkerCutsRow.shortTexts.isNone) = true := by kernel_rfl
theorem q26 : ((Rows.checkerCutsRow.lifted == Try.prog.liftsFinal)) = true := fact_liftsFinal
theorem q27 : ((Try.prog.make == some Rows.checkerCutsRow.make)) = true := fact_make
theorem q28 : ((Rows.checkerCutsRow.kinds == (if Rows.checkerCutsRow.domain.isEmpty then [] else Try.f24.params.toList.map fun t => match Try.prog.underlying t with | some (.int k) => some k | _ => none))) = true := by kernel_rfl
theorem q29 : ((Rows.checkerCutsRow.pinned == Rows.checkerCutsRow.pinnedBy)) = true := by kernel_rfl
theorem q30 : ((Rows.checkerCutsRow.veiled == (Try.f24.params.toList ++ Rows.checkerCutsSpec.plain.varTypes Try.prog ++ Try.f24.resultTypes.toList).any (Try.prog.veiledRec ·))) = true := by kernel_rfl
theorem q31 : (Rows.checkerCutsRow.veiledFits Try.prog Try.f24.params.toList (Try.f24.params.toList ++ Rows.checkerCutsSpec.plain.varTypes Try.prog ++ Try.f24.resultTypes.toList)) = true := by kernel_rfl
theorem qn : Try.prog.funcNamed Rows.checkerCutsRow.func = some 24 := by kernel_rfl
set_option maxRecDepth 100000 in
theorem closed : joinedFacts Try.prog 24 Try.f24 Rows.checkerCutsSpec Rows.checkerCutsRow = true := joined_of Try.prog 24 Try.f24 Rows.checkerCutsSpec Rows.checkerCutsRow q0 fact_laidOut fact_mapsRowed q3 q4 q5 fact_stops q7 fact_knobs q9 q10 q11 q12 q13 q14 q15 q16 q17 q18 q19 q20 q21 q22 q23 fact_heard fact_mayEnter q26 q27 q28 q29 q30 q31
theorem over : Rows.checkerCutsRow.holds Try.pinned (OpenSpec.ofChange Rows.checkerCutsSpec) :=
  OpenClaim.holds_of_wide 24 Try.f24 rfl rfl rfl rfl rfl rfl rfl ⟨rfl, rfl, rfl, rfl, rfl⟩ rfl rfl rfl rfl rfl qn Try.func24 closed
    (of_decide_eq_true (by kernel_rfl)) (by unfold Func.isWrapper; rw [if_neg (by decide +kernel)]; exact ⟨rfl, rfl⟩)
    (fun os started H enc _ => lifted os started H enc)
/-- THE STATEMENT -/
theorem proved : Rows.CheckerCutsSaid := over
#print axioms proved
end Go.Proofs.Yteeopgpgbdhmhaa.checkerCuts
