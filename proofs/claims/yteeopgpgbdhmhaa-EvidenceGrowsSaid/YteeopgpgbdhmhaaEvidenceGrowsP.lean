/- For every input the law EvidenceGrows returns true, and each argument reads behind the call as it read before. Conditions: none. -/
import Derived.Test.YteeopgpgbdhmhaaRows
import Derived.WalkKit
import Derived.ProofKit
import Derived.OpenShut
import Derived.SizedLaws
import Derived.Test.YteeopgpgbdhmhaaNin5
namespace Go.Proofs.Yteeopgpgbdhmhaa
open Go.RowKit
set_option linter.unusedVariables false
set_option linter.unusedSimpArgs false
attribute [local irreducible] wpList wpO H wpQuiet wpStill Code.wp Exit.then Exit.inBlock bodyPost Code.rounds Calls valid sameKey conflict lessV hless num between
set_option maxRecDepth 4000 in
set_option maxHeartbeats 4000000 in
theorem c19 (vk : Value) (keys : List Nm) (v : Value) (xs : List Sg) (u : Value) (ys : List Sg) (w : World) (hk : Ls cN w.heap.size w vk keys) (h1 : Ls cS w.heap.size w v xs) (h2 : Ls cS w.heap.size w u ys) : Calls Try.prog 19 [vk, v, u].toArray w (Ret w (.bool true)) := by
  refine enter Try.func19 Try.ntmps19 rfl rfl ?_
  have hE := Ext.refl w
  have hcut1 := cut60_ls h1
  obtain ⟨X1, hX1⟩ : ∃ X, X = xs.take 60 := ⟨_, rfl⟩
  rw [← hX1] at hcut1
  have hXl1 : X1.length ≤ 60 := by rw [hX1, List.length_take]; omega
  have hcut2 := cut60_ls h2
  obtain ⟨X2, hX2⟩ : ∃ X, X = ys.take 60 := ⟨_, rfl⟩
  rw [← hX2] at hcut2
  have hXl2 : X2.length ≤ 60 := by rw [hX2, List.length_take]; omega
  refine wp_seq ?_
  refine W_region ?_
  refine L (D_v (R_assign rfl) ?_)
  refine S_nil ?_
  refine T_tn ?_
  refine wp_seq ?_
  refine W_region ?_
  refine L (D_v (R_move rfl) ?_)
  refine L (D_call (R_callF Try.call70 rfl rfl) (c70 v (xs) _ ((h1.ext hE).up2 (Nat.le_trans (Nat.le_refl _) hE.size))) (fun w2_1 e2_1 => ?_))
  replace hE := hE.trans e2_1
  refine L (D_v (R_move rfl) ?_)
  refine L (D_call (R_callF Try.call70 rfl rfl) (c70 u (ys) _ ((h2.ext hE).up2 (Nat.le_trans (Nat.le_refl _) hE.size))) (fun w2_3 e2_3 => ?_))
  replace hE := hE.trans e2_3
  refine L (D_v (R_assign rfl) ?_)
  refine L (D_v (R_assign rfl) ?_)
  refine S_nil ?_
  refine T_tn ?_
  refine wp_seq ?_
  refine W_region ?_
  refine L (D_buildL0 (C := cS) (lo := w.heap.size) Try.underlying46 Try.sizeOf53 (fun v3_0 w3_0 o3_0 e3_0 => ?_))
  replace o3_0 := o3_0.low hE.size
  replace hE := hE.trans e3_0
  refine L (D_v (R_move rfl) ?_)
  refine L (D_appendL elt53 Try.underlying46 rfl rfl o3_0 (Nat.le_refl _) (hcut1.ext hE) (by (try simp only [List.length_take, List.length_drop, List.length_append, List.length_cons, List.length_nil, List.length_replicate, List.length_set, Nm.b_len, be2_len]); omega) (by (try simp only [List.length_take, List.length_drop, List.length_append, List.length_cons, List.length_nil, List.length_replicate, List.length_set, Nm.b_len, be2_len]); omega) hE.size (fun v3_2 w3_2 o3_2 g3_2 f3_2 sv3_2 => ?_))
  replace hE := hE.grown g3_2 (fun k hk => own_ge o3_0.1 hk)
  refine L (D_v (R_move rfl) ?_)
  refine L (D_appendL elt53 Try.underlying46 rfl rfl o3_2 (Nat.le_refl _) (hcut2.ext hE) (by (try simp only [List.length_take, List.length_drop, List.length_append, List.length_cons, List.length_nil, List.length_replicate, List.length_set, Nm.b_len, be2_len]); omega) (by (try simp only [List.length_take, List.length_drop, List.length_append, List.length_cons, List.length_nil, List.length_replicate, List.length_set, Nm.b_len, be2_len]); omega) hE.size (fun v3_4 w3_4 o3_4 g3_4 f3_4 sv3_4 => ?_))
  replace hE := hE.grown g3_4 (fun k hk => own_ge o3_2.1 hk)
  refine L (D_v (R_assign rfl) ?_)
  refine S_nil ?_
  refine T_tn ?_
  refine wp_seq ?_
  refine W_region ?_
  refine L (D_buildL0 (C := cS) (lo := w.heap.size) Try.underlying46 Try.sizeOf53 (fun v4_0 w4_0 o4_0 e4_0 => ?_))
  have zv3_4_v4_0 := own_apart o3_4.1 o4_0.1
  have zv4_0_v3_4 := fun k hk hk2 => zv3_4_v4_0 k hk2 hk
  replace o4_0 := o4_0.low hE.size
  replace hE := hE.trans e4_0
  replace o3_4 := o3_4.ext e4_0
  refine L (D_v (R_move rfl) ?_)
  refine L (D_appendL elt53 Try.underlying46 rfl rfl o4_0 (Nat.le_refl _) (hcut2.ext hE) (by (try simp only [List.length_take, List.length_drop, List.length_append, List.length_cons, List.length_nil, List.length_replicate, List.length_set, Nm.b_len, be2_len]); omega) (by (try simp only [List.length_take, List.length_drop, List.length_append, List.length_cons, List.length_nil, List.length_replicate, List.length_set, Nm.b_len, be2_len]); omega) hE.size (fun v4_2 w4_2 o4_2 g4_2 f4_2 sv4_2 => ?_))
  have zv3_4_v4_2 : ∀ k, Value.ownBlock v3_4 = some k → Value.ownBlock v4_2 ≠ some k := fun k hk2 hk => (sv4_2 _ hk).elim (fun h => zv3_4_v4_0 k hk2 h) (fun h => absurd h (Nat.not_le.2 (own_lt o3_4.1 hk2)))
  have zv4_2_v3_4 := fun k hk hk2 => zv3_4_v4_2 k hk2 hk
  replace hE := hE.grown g4_2 (fun k hk => own_ge o4_0.1 hk)
  replace o3_4 := o3_4.grown g4_2 (zv3_4_v4_0) f4_2
  refine L (D_v (R_move rfl) ?_)
  refine L (D_appendL elt53 Try.underlying46 rfl rfl o4_2 (Nat.le_refl _) (hcut1.ext hE) (by (try simp only [List.length_take, List.length_drop, List.length_append, List.length_cons, List.length_nil, List.length_replicate, List.length_set, Nm.b_len, be2_len]); omega) (by (try simp only [List.length_take, List.length_drop, List.length_append, List.length_cons, List.length_nil, List.length_replicate, List.length_set, Nm.b_len, be2_len]); omega) hE.size (fun v4_4 w4_4 o4_4 g4_4 f4_4 sv4_4 => ?_))
  have zv3_4_v4_4 : ∀ k, Value.ownBlock v3_4 = some k → Value.ownBlock v4_4 ≠ some k := fun k hk2 hk => (sv4_4 _ hk).elim (fun h => zv3_4_v4_2 k hk2 h) (fun h => absurd h (Nat.not_le.2 (own_lt o3_4.1 hk2)))
  have zv4_4_v3_4 := fun k hk hk2 => zv3_4_v4_4 k hk2 hk
  replace hE := hE.grown g4_4 (fun k hk => own_ge o4_2.1 hk)
  replace o3_4 := o3_4.grown g4_4 (zv3_4_v4_2) f4_4
  refine L (D_v (R_assign rfl) ?_)
  refine S_nil ?_
  refine T_tn ?_
  refine wp_seq ?_
  refine W_region ?_
  refine L (D_v (R_move rfl) ?_)
  refine L (D_v (R_move rfl) ?_)
  refine L (D_call (R_callF Try.call71 rfl rfl) (c71 vk (keys) w.heap.size v3_4 ((([] ++ X1) ++ X2)) _ ((hk.ext hE).lev fun _ _ _ => trivial) (Nat.le_trans (Nat.le_refl _) hE.size) (by first | omega | (simp only [List.length_append, List.length_nil]; omega)) o3_4.ls) (fun w5_2 e5_2 => ?_))
  replace hE := hE.trans e5_2
  replace o3_4 := o3_4.ext e5_2
  replace o4_4 := o4_4.ext e5_2
  refine L (D_v (R_assign rfl) ?_)
  refine S_nil ?_
  refine T_tn ?_
  refine wp_seq ?_
  refine W_region ?_
  refine L (D_v (R_move rfl) ?_)
  refine L (D_v (R_move rfl) ?_)
  refine L (D_call (R_callF Try.call71 rfl rfl) (c71 vk (keys) w.heap.size (cut60 v (xs).length) (X1) _ ((hk.ext hE).lev fun _ _ _ => trivial) (Nat.le_trans (Nat.le_refl _) hE.size) (by first | omega | (simp only [List.length_append, List.length_nil]; omega)) (hcut1.ext hE)) (fun w6_2 e6_2 => ?_))
  replace hE := hE.trans e6_2
  replace o3_4 := o3_4.ext e6_2
  replace o4_4 := o4_4.ext e6_2
  refine L (D_v (R_move rfl) ?_)
  refine L (D_v (R_cast (v' := i64 0) (R_andNotI rfl rfl) (congrArg (Value.int .i64) gk_l)) ?_)
  refine L (D_v (R_cast (v' := .bool true) (R_eqlI rfl rfl) rfl) ?_)
  refine L (D_v (R_move rfl) ?_)
  refine L (D_on rfl rfl (D_v (R_move rfl) ?_))
  refine L (D_on rfl rfl (D_v (R_move rfl) ?_))
  refine L (D_on rfl rfl (D_call (R_callF Try.call71 rfl rfl) (c71 vk (keys) w.heap.size (cut60 u (ys).length) (X2) _ ((hk.ext hE).lev fun _ _ _ => trivial) (Nat.le_trans (Nat.le_refl _) hE.size) (by first | omega | (simp only [List.length_append, List.length_nil]; omega)) (hcut2.ext hE)) (fun w6_9 e6_9 => ?_)))
  replace hE := hE.trans e6_9
  replace o3_4 := o3_4.ext e6_9
  replace o4_4 := o4_4.ext e6_9
  refine L (D_on rfl rfl (D_v (R_move rfl) ?_))
  refine L (D_on rfl rfl (D_v (R_cast (v' := i64 0) (R_andNotI rfl rfl) (congrArg (Value.int .i64) gk_r)) ?_))
  refine L (D_on rfl rfl (D_v (R_cast (v' := .bool true) (R_eqlI rfl rfl) rfl) ?_))
  refine L (D_v (R_cast (v' := .bool true) (R_pick rfl rfl rfl) rfl) ?_)
  refine L (D_v (R_move rfl) ?_)
  refine L (D_on rfl rfl (D_v (R_move rfl) ?_))
  refine L (D_on rfl rfl (D_v (R_move rfl) ?_))
  refine L (D_on rfl rfl (D_call (R_callF Try.call71 rfl rfl) (c71 vk (keys) w.heap.size v4_4 ((([] ++ X2) ++ X1)) _ ((hk.ext hE).lev fun _ _ _ => trivial) (Nat.le_trans (Nat.le_refl _) hE.size) (by first | omega | (simp only [List.length_append, List.length_nil]; omega)) o4_4.ls) (fun w6_17 e6_17 => ?_)))
  replace hE := hE.trans e6_17
  replace o3_4 := o3_4.ext e6_17
  replace o4_4 := o4_4.ext e6_17
  refine L (D_on rfl rfl (D_v (R_move rfl) ?_))
  refine L (D_on rfl rfl (D_v (R_cast (v' := .bool true) (R_eqlI rfl rfl) (congrArg Value.bool (by rw [gk_same app_mem]; simp))) ?_))
  refine L (D_v (R_cast (v' := .bool true) (R_pick rfl rfl rfl) rfl) ?_)
  refine L (D_v (R_move rfl) ?_)
  refine L (D_on rfl rfl (D_v (R_move rfl) ?_))
  refine L (D_on rfl rfl (D_v (R_move rfl) ?_))
  refine L (D_on rfl rfl (D_callE (R_callF Try.call73 rfl rfl) (c73 vk (keys) w.heap.size v4_4 ((([] ++ X2) ++ X1)) _ ((hk.ext hE).lev fun _ _ _ => trivial) (Nat.le_trans (Nat.le_refl _) hE.size) (by first | omega | (simp only [List.length_append, List.length_nil]; omega)) o4_4.ls) (fun v6_24 w6_24 e6_24 p6_24 => ?_)))
  obtain ⟨e6_24a, o6_24, pe6_24⟩ := p6_24
  replace o6_24 := o6_24.low hE.size
  replace hE := hE.trans e6_24
  replace o3_4 := o3_4.ext e6_24
  replace o4_4 := o4_4.ext e6_24
  refine L (D_on rfl rfl (D_v (R_move rfl) ?_))
  refine L (D_on rfl rfl (D_v (R_move rfl) ?_))
  refine L (D_on rfl rfl (D_callE (R_callF Try.call73 rfl rfl) (c73 vk (keys) w.heap.size v3_4 ((([] ++ X1) ++ X2)) _ ((hk.ext hE).lev fun _ _ _ => trivial) (Nat.le_trans (Nat.le_refl _) hE.size) (by first | omega | (simp only [List.length_append, List.length_nil]; omega)) o3_4.ls) (fun v6_27 w6_27 e6_27 p6_27 => ?_)))
  obtain ⟨e6_27a, o6_27, pe6_27⟩ := p6_27
  have zv6_24_v6_27 := own_apart o6_24.1 o6_27.1
  have zv6_27_v6_24 := fun k hk hk2 => zv6_24_v6_27 k hk2 hk
  replace o6_27 := o6_27.low hE.size
  replace hE := hE.trans e6_27
  replace o3_4 := o3_4.ext e6_27
  replace o4_4 := o4_4.ext e6_27
  replace o6_24 := o6_24.ext e6_27
  refine L (D_on rfl rfl (D_call (R_callF Try.call72 rfl rfl) (ret_b (c72 v6_24 v6_27 (e6_24a) (e6_27a) _ (Nat.le_trans (evs_el pe6_24) (by decide)) (o6_24.ls.upE (Nat.le_trans (Nat.le_refl _) hE.size)) (o6_27.ls.upE (Nat.le_trans (Nat.le_refl _) hE.size))) (find_same pe6_24 pe6_27)) (fun w6_28 e6_28 => ?_)))
  replace hE := hE.trans e6_28
  replace o3_4 := o3_4.ext e6_28
  replace o4_4 := o4_4.ext e6_28
  replace o6_24 := o6_24.ext e6_28
  replace o6_27 := o6_27.ext e6_28
  refine L (D_v (R_cast (v' := .bool true) (R_pick rfl rfl rfl) rfl) ?_)
  refine L (D_v (R_move rfl) ?_)
  refine L (D_on rfl rfl (D_call (R_callF Try.call74 rfl rfl) (c74 _) (fun w6_31 e6_31 => ?_)))
  replace hE := hE.trans e6_31
  replace o3_4 := o3_4.ext e6_31
  replace o4_4 := o4_4.ext e6_31
  replace o6_24 := o6_24.ext e6_31
  replace o6_27 := o6_27.ext e6_31
  refine L (D_v (R_cast (v' := .bool true) (R_pick rfl rfl rfl) rfl) ?_)
  refine L (D_v (R_assign rfl) ?_)
  refine S_nil ?_
  refine T_tn ?_
  refine wp_ret ?_
  refine ret1 (v := .bool _) rfl rfl ⟨congrArg (fun b => Ending.returned (Value.bool b)) ?_, hE⟩
  rfl
end Go.Proofs.Yteeopgpgbdhmhaa
namespace Go.Proofs.Yteeopgpgbdhmhaa.evidenceGrows
open Go.ChangeShapes Go.WideShapes Go.ChangeAt Go.RowKit
set_option linter.unusedVariables false
set_option maxRecDepth 100000 in
theorem lifted (os : Os) (started : os.Started) (H : Type) (enc : TypeId × Value → H) :
    ReturnsInHanded {} Try.checked os 19 .any (Rows.evidenceGrowsSpec.pre6 enc Try.prog Try.f19 Rows.evidenceGrowsRow.domain false) (Rows.evidenceGrowsSpec.post enc Try.prog Try.f19 false true false false) := by
  refine returnsInHanded_of_change (C := Try.checked) own started (by kernel_rfl) Try.func19
    (ChangeSpec.witness6 (enc := enc) (C := Try.checked) false ⟨#[], #[.slice none 0 0, .slice none 0 0, .slice none 0 0], []⟩ 8 (by kernel_rfl) (by kernel_rfl) (by kernel_rfl) (by kernel_rfl)) ?_
  intro W base args ds gs before hval0 hW hcnd _
  have hval : ∀ (j : Nat) t v, Try.f19.params[j]? = some t → args[j]? = some v → Value.okWide Try.prog W .any base t v := hval0
  have hW' := hW
  obtain ⟨p, q, hA0, hV, rfl, hfz, hnd⟩ := hW
  have hA : DataW.TrodAll enc Try.prog W 0 (fun _ => true) true Try.f19.params.toList args.toList ds p := hA0
  rw [Try.params19] at hA hval
  obtain ⟨v0, vs0, d0, ds0, p0, q0, hargs, rfl, rfl, h0, r0⟩ := trodAll_cons hA
  obtain ⟨v1, vs1, d1, ds1, p1, q1, rfl, rfl, rfl, h1, r1⟩ := trodAll_cons r0
  obtain ⟨v2, vs2, d2, ds2, p2, q2, rfl, rfl, rfl, h2, r2⟩ := trodAll_cons r1
  obtain ⟨rfl, rfl, rfl⟩ := trodAll_nil r2
  obtain rfl : args = #[v0, v1, v2] := by cases args; simp_all
  obtain ⟨rfl, rfl⟩ := trodVars_none hV
  have k0 := h0
  have lt0 : ∀ x ∈ p0, x.block < W.heap.size := by obtain ⟨m, hm⟩ := k0; exact DataW.trod_lt m _ _ _ hm
  have k1 := h1
  have lt1 : ∀ x ∈ p1, x.block < W.heap.size := by obtain ⟨m, hm⟩ := k1; exact DataW.trod_lt m _ _ _ hm
  have k2 := h2
  have lt2 : ∀ x ∈ p2, x.block < W.heap.size := by obtain ⟨m, hm⟩ := k2; exact DataW.trod_lt m _ _ _ hm
  obtain ⟨a0, f0⟩ := open45 (hval 0 45 v0 rfl rfl) h0
  obtain ⟨a1, f1⟩ := open46 (hval 1 46 v1 rfl rfl) h1
  obtain ⟨a2, f2⟩ := open46 (hval 2 46 v2 rfl rfl) h2
  clear hA0 hval0
  refine (c19 v0 a0 v1 a1 v2 a2 W f0 f1.1 f2.1).mono fun e W' ⟨he, bel⟩ => ?_
  subst he
  exact ⟨_, rfl, _, _, _, [], _, [], hW', trodAll_mk1 (shut_bool Try.underlying4 _), (trodAll_cons_mk (Below.trod laidOut (by kernel_rfl) (of_decide_eq_true (by kernel_rfl)) k0 bel lt0) (trodAll_cons_mk (Below.trod laidOut (by kernel_rfl) (of_decide_eq_true (by kernel_rfl)) k1 bel lt1) (trodAll_cons_mk (Below.trod laidOut (by kernel_rfl) (of_decide_eq_true (by kernel_rfl)) k2 bel lt2) trodAll_mk0))), rfl, bel.frame _, fun h => by cases h⟩
theorem q0 : (Rows.evidenceGrowsRow.wf (OpenSpec.ofChange Rows.evidenceGrowsSpec)) = true := by kernel_rfl
theorem q3 : (Try.f19.params.all (Try.prog.readableRec ·)) = true := by kernel_rfl
theorem q4 : (namedTie Try.prog Rows.evidenceGrowsRow.named Rows.evidenceGrowsSpec.vars) = true := by kernel_rfl
theorem q5 : ((Rows.evidenceGrowsRow.stops == [])) = true := by kernel_rfl
theorem q7 : ((Rows.evidenceGrowsRow.knobs == [])) = true := by kernel_rfl
theorem q9 : ((Rows.evidenceGrowsRow.inPlace == Try.prog.inPlace 19)) = true := by kernel_rfl
theorem q10 : ((Rows.evidenceGrowsRow.unfollowed == Try.prog.unfollowed 19)) = true := by kernel_rfl
theorem q11 : ((Rows.evidenceGrowsRow.recurses == Try.prog.recurses 19)) = true := by kernel_rfl
theorem q12 : ((Rows.evidenceGrowsRow.named == Try.prog.varsNamed 19)) = true := by kernel_rfl
theorem q13 : ((Rows.evidenceGrowsRow.maps == (Try.f19.params.toList ++ Rows.evidenceGrowsSpec.plain.varTypes Try.prog).any (Try.prog.mapsRec ·))) = true := by kernel_rfl
theorem q14 : ((Rows.evidenceGrowsRow.ifaces == (Try.f19.params.toList ++ Rows.evidenceGrowsSpec.plain.varTypes Try.prog).any (Try.prog.ifacesRec ·))) = true := by kernel_rfl
theorem q15 : ((Rows.evidenceGrowsRow.mapsOut == Try.prog.mapsAmong Try.f19.resultTypes.toList)) = true := by kernel_rfl
theorem q16 : ((Rows.evidenceGrowsRow.loops == (Try.f19.params.toList ++ Rows.evidenceGrowsSpec.plain.varTypes Try.prog).any (Try.prog.loopsFrom ·))) = true := by kernel_rfl
theorem q17 : ((Rows.evidenceGrowsRow.wideKeys == (Try.f19.params.toList ++ Rows.evidenceGrowsSpec.plain.varTypes Try.prog ++ Try.f19.resultTypes.toList).any (Try.prog.wideKeysFrom ·))) = true := by kernel_rfl
theorem q18 : (Rows.evidenceGrowsSpec.vars.all (Try.prog.varReadable ·)) = true := by kernel_rfl
theorem q19 : (Try.f19.resultTypes.all (fun t => Try.prog.readableRec t && decide (t < Try.prog.types.size))) = true := by kernel_rfl
theorem q20 : ((Rows.evidenceGrowsRow.ifacesOut == Try.f19.resultTypes.toList.any (Try.prog.ifacesRec ·))) = true := by kernel_rfl
theorem q21 : ((Rows.evidenceGrowsRow.loopsOut == Try.f19.resultTypes.toList.any (Try.prog.loopsFrom ·))) = true := by kernel_rfl
theorem q22 : ((Rows.evidenceGrowsRow.plainKeys == Try.prog.plainKeys)) = true := fact_plainKeys
theorem q23 : (Rows.evidenceGrowsRow.shortTexts.isNone) = true := by kernel_rfl
theorem q26 : ((Rows.evidenceGrowsRow.lifted == Try.prog.liftsFinal)) = true := fact_liftsFinal
theorem q27 : ((Try.prog.make == some Rows.evidenceGrowsRow.make)) = true := fact_make
theorem q28 : ((Rows.evidenceGrowsRow.kinds == (if Rows.evidenceGrowsRow.domain.isEmpty then [] else Try.f19.params.toList.map fun t => match Try.prog.underlying t with | some (.int k) => some k | _ => none))) = true := by kernel_rfl
theorem q29 : ((Rows.evidenceGrowsRow.pinned == Rows.evidenceGrowsRow.pinnedBy)) = true := by kernel_rfl
theorem q30 : ((Rows.evidenceGrowsRow.veiled == (Try.f19.params.toList ++ Rows.evidenceGrowsSpec.plain.varTypes Try.prog ++ Try.f19.resultTypes.toList).any (Try.prog.veiledRec ·))) = true := by kernel_rfl
theorem q31 : (Rows.evidenceGrowsRow.veiledFits Try.prog Try.f19.params.toList (Try.f19.params.toList ++ Rows.evidenceGrowsSpec.plain.varTypes Try.prog ++ Try.f19.resultTypes.toList)) = true := by kernel_rfl
theorem qn : Try.prog.funcNamed Rows.evidenceGrowsRow.func = some 19 := by kernel_rfl
set_option maxRecDepth 100000 in
theorem closed : joinedFacts Try.prog 19 Try.f19 Rows.evidenceGrowsSpec Rows.evidenceGrowsRow = true := joined_of Try.prog 19 Try.f19 Rows.evidenceGrowsSpec Rows.evidenceGrowsRow q0 fact_laidOut fact_mapsRowed q3 q4 q5 fact_stops q7 fact_knobs q9 q10 q11 q12 q13 q14 q15 q16 q17 q18 q19 q20 q21 q22 q23 fact_heard fact_mayEnter q26 q27 q28 q29 q30 q31
theorem over : Rows.evidenceGrowsRow.holds Try.pinned (OpenSpec.ofChange Rows.evidenceGrowsSpec) :=
  OpenClaim.holds_of_wide 19 Try.f19 rfl rfl rfl rfl rfl rfl rfl ⟨rfl, rfl, rfl, rfl, rfl⟩ rfl rfl rfl rfl rfl qn Try.func19 closed
    (of_decide_eq_true (by kernel_rfl)) (by unfold Func.isWrapper; rw [if_neg (by decide +kernel)]; exact ⟨rfl, rfl⟩)
    (fun os started H enc _ => lifted os started H enc)
/-- THE STATEMENT -/
theorem proved : Rows.EvidenceGrowsSaid := over
#print axioms proved
end Go.Proofs.Yteeopgpgbdhmhaa.evidenceGrows
