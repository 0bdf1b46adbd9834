/- What the law needs, part 4. No condition. -/
import Derived.Test.YteeopgpgbdhmhaaGreatFnd3
namespace Go.Proofs.YteeopgpgbdhmhaaGreat
open Go.RowKit
set_option linter.unusedVariables false
set_option linter.unusedSimpArgs false
attribute [local irreducible] wpList wpO H wpQuiet wpStill Code.wp Exit.then Exit.inBlock bodyPost Code.rounds Calls valid sameKey conflict lessV hless num between
set_option maxRecDepth 4000 in
set_option maxHeartbeats 4000000 in
theorem c178 (m : Nm) (w : World) : Calls Tryz.prog 119 [m.v].toArray w (RetE w fun r w' => Ow cI w.heap.size w.heap.size w' r (digits m)) := by
  refine enter Tryz.func119 Tryz.ntmps119 rfl rfl ?_
  have hE := Ext.refl w
  have hb0 := m.b0.toNat_lt
  have hb1 := m.b1.toNat_lt
  have hb2 := m.b2.toNat_lt
  have hb3 := m.b3.toNat_lt
  have hb4 := m.b4.toNat_lt
  have hb5 := m.b5.toNat_lt
  have hb6 := m.b6.toNat_lt
  have hb7 := m.b7.toNat_lt
  refine wp_seq ?_
  refine W_region ?_
  refine L (D_box (c := (m).l) (rfl) (fun aB1_0 w1_0 e1_0 gB1_0 hB1_0 => ?_))
  have lB1_0 := Nat.le_trans hE.size gB1_0
  replace hE := hE.trans e1_0
  refine L (D_v (R_assign rfl) ?_)
  refine S_nil ?_
  refine T_tn ?_
  refine wp_seq ?_
  refine W_region ?_
  refine L (D_makeL (C := cI) (lo := w.heap.size) (l := 0) (c := 18) mk3 Tryz.underlying126 rfl rfl (by (try simp only [List.length_take, List.length_drop, List.length_append, List.length_cons, List.length_nil, List.length_replicate, List.length_set, Nm.b_len, be2_len]); omega) (by (try simp only [List.length_take, List.length_drop, List.length_append, List.length_cons, List.length_nil, List.length_replicate, List.length_set, Nm.b_len, be2_len]); omega) (by (try simp only [List.length_take, List.length_drop, List.length_append, List.length_cons, List.length_nil, List.length_replicate, List.length_set, Nm.b_len, be2_len]); omega) (fun v2_0 w2_0 o2_0 e2_0 => ?_))
  replace o2_0 := o2_0.low hE.size
  replace hE := hE.trans e2_0
  replace hB1_0 := hB1_0.ext e2_0
  refine L (D_v (R_assign rfl) ?_)
  refine S_nil ?_
  refine T_tn ?_
  refine wp_seq ?_
  refine W_region ?_
  refine L (D_v (R_assign rfl) ?_)
  refine S_nil ?_
  refine T_tn ?_
  refine wp_seq ?_
  refine wp_seq ?_
  refine W_region ?_
  refine L (D_v (R_loadA (c := (m).l) Tryz.isAgg29 Tryz.sizeOf29 hB1_0 rfl rfl rfl) ?_)
  refine L (D_v (R_move rfl) ?_)
  refine S_nil ?_
  refine T_tn ?_
  refine wp_block ?_
  refine W_unroll 8 ?_
  refine W_round ?_
  refine wp_seq ?_
  refine W_region ?_
  refine L (D_v (R_cast (v' := .bool true) (R_lssI rfl rfl) rfl) ?_)
  refine S_nil ?_
  refine T_tn ?_
  refine wp_seq ?_
  refine W_ift rfl ?_
  refine wp_skip ?_
  refine T_tn ?_
  refine wp_seq ?_
  refine wp_block ?_
  refine wp_seq ?_
  refine W_region ?_
  refine L (D_v (R_index Tryz.runUnderlying29 Tryz.sizeOf5 Tryz.isAgg5 rfl rfl rfl (by decide) (by decide)) ?_)
  refine L (D_v (R_assign rfl) ?_)
  refine S_nil ?_
  refine T_tn ?_
  refine wp_seq ?_
  refine W_region ?_
  refine L (D_v (R_move rfl) ?_)
  refine L (D_v (R_shrB rfl rfl) ?_)
  refine L (D_v (R_convN (e := ((m).b0.toNat / 16)) Tryz.runUnderlying5 Tryz.runUnderlying3 rfl (by (try simp only [List.length_take, List.length_drop, List.length_append, List.length_cons, List.length_nil, List.length_replicate, List.length_set, Nm.b_len, be2_len]); omega)) ?_)
  refine L (D_v (R_move rfl) ?_)
  refine L (D_v (R_andB rfl rfl) ?_)
  refine L (D_v (R_convN (e := ((m).b0.toNat % 16)) Tryz.runUnderlying5 Tryz.runUnderlying3 rfl (by (try simp only [List.length_take, List.length_drop, List.length_append, List.length_cons, List.length_nil, List.length_replicate, List.length_set, Nm.b_len, be2_len]); omega)) ?_)
  refine L (D_v (R_assign rfl) ?_)
  refine L (D_v (R_assign rfl) ?_)
  refine S_nil ?_
  refine T_tn ?_
  refine wp_seq ?_
  refine W_region ?_
  refine L (D_v (R_move rfl) ?_)
  refine L (D_v (R_move rfl) ?_)
  refine L (D_v (R_move rfl) ?_)
  refine L (D_buildI2 (lo := w.heap.size) (a := ((m).b0.toNat / 16)) (b := ((m).b0.toNat % 16)) Tryz.underlying126 Tryz.sizeOf3 Tryz.zeroValue3 (mapp2 rfl rfl) (fun v8_3 w8_3 o8_3 e8_3 => ?_))
  have zv2_0_v8_3 := own_apart o2_0.1 o8_3.1
  have zv8_3_v2_0 := fun k hk hk2 => zv2_0_v8_3 k hk2 hk
  replace o8_3 := o8_3.low hE.size
  replace hE := hE.trans e8_3
  replace o2_0 := o2_0.ext e8_3
  refine L (D_appendL elt3 Tryz.underlying126 rfl rfl o2_0 (Nat.le_refl _) o8_3.ls (by (try simp only [List.length_take, List.length_drop, List.length_append, List.length_cons, List.length_nil, List.length_replicate, List.length_set, Nm.b_len, be2_len]); omega) (by (try simp only [List.length_take, List.length_drop, List.length_append, List.length_cons, List.length_nil, List.length_replicate, List.length_set, Nm.b_len, be2_len]); omega) hE.size (fun v8_4 w8_4 o8_4 g8_4 f8_4 sv8_4 => ?_))
  have zv8_3_v8_4 : ∀ k, Value.ownBlock v8_3 = some k → Value.ownBlock v8_4 ≠ some k := fun k hk2 hk => (sv8_4 _ hk).elim (fun h => zv8_3_v2_0 k hk2 h) (fun h => absurd h (Nat.not_le.2 (own_lt o8_3.1 hk2)))
  have zv8_4_v8_3 := fun k hk hk2 => zv8_3_v8_4 k hk2 hk
  replace hE := hE.grown g8_4 (fun k hk => own_ge o2_0.1 hk)
  replace o8_3 := o8_3.grown g8_4 (zv8_3_v2_0) f8_4
  refine L (D_v (R_assign rfl) ?_)
  refine S_nil ?_
  refine T_tn ?_
  refine W_region ?_
  refine L (D_v (R_move rfl) ?_)
  refine L (D_v (R_move rfl) ?_)
  refine L (D_v (R_move rfl) ?_)
  refine L (D_v (R_addN (m := ((m).b0.toNat / 16)) (j := ((m).b0.toNat % 16)) rfl rfl (by (try simp only [List.length_take, List.length_drop, List.length_append, List.length_cons, List.length_nil, List.length_replicate, List.length_set, Nm.b_len, be2_len]); omega)) ?_)
  refine L (D_v (R_subN (m := 240) (j := (((m).b0.toNat / 16) + ((m).b0.toNat % 16))) rfl rfl (by (try simp only [List.length_take, List.length_drop, List.length_append, List.length_cons, List.length_nil, List.length_replicate, List.length_set, Nm.b_len, be2_len]); omega) (by (try simp only [List.length_take, List.length_drop, List.length_append, List.length_cons, List.length_nil, List.length_replicate, List.length_set, Nm.b_len, be2_len]); omega)) ?_)
  refine L (D_v (R_assign rfl) ?_)
  refine S_nil ?_
  refine T_bn ?_
  refine T_tn ?_
  refine W_region ?_
  refine L (D_v (R_cast (v' := .int .i64 (1)) (R_addI rfl rfl) rfl) ?_)
  refine L (D_v (R_move rfl) ?_)
  refine S_nil ?_
  refine T_tn ?_
  refine W_round ?_
  refine wp_seq ?_
  refine W_region ?_
  refine L (D_v (R_cast (v' := .bool true) (R_lssI rfl rfl) rfl) ?_)
  refine S_nil ?_
  refine T_tn ?_
  refine wp_seq ?_
  refine W_ift rfl ?_
  refine wp_skip ?_
  refine T_tn ?_
  refine wp_seq ?_
  refine wp_block ?_
  refine wp_seq ?_
  refine W_region ?_
  refine L (D_v (R_index Tryz.runUnderlying29 Tryz.sizeOf5 Tryz.isAgg5 rfl rfl rfl (by decide) (by decide)) ?_)
  refine L (D_v (R_assign rfl) ?_)
  refine S_nil ?_
  refine T_tn ?_
  refine wp_seq ?_
  refine W_region ?_
  refine L (D_v (R_move rfl) ?_)
  refine L (D_v (R_shrB rfl rfl) ?_)
  refine L (D_v (R_convN (e := ((m).b1.toNat / 16)) Tryz.runUnderlying5 Tryz.runUnderlying3 rfl (by (try simp only [List.length_take, List.length_drop, List.length_append, List.length_cons, List.length_nil, List.length_replicate, List.length_set, Nm.b_len, be2_len]); omega)) ?_)
  refine L (D_v (R_move rfl) ?_)
  refine L (D_v (R_andB rfl rfl) ?_)
  refine L (D_v (R_convN (e := ((m).b1.toNat % 16)) Tryz.runUnderlying5 Tryz.runUnderlying3 rfl (by (try simp only [List.length_take, List.length_drop, List.length_append, List.length_cons, List.length_nil, List.length_replicate, List.length_set, Nm.b_len, be2_len]); omega)) ?_)
  refine L (D_v (R_assign rfl) ?_)
  refine L (D_v (R_assign rfl) ?_)
  refine S_nil ?_
  refine T_tn ?_
  refine wp_seq ?_
  refine W_region ?_
  refine L (D_v (R_move rfl) ?_)
  refine L (D_v (R_move rfl) ?_)
  refine L (D_v (R_move rfl) ?_)
  refine L (D_buildI2 (lo := w.heap.size) (a := ((m).b1.toNat / 16)) (b := ((m).b1.toNat % 16)) Tryz.underlying126 Tryz.sizeOf3 Tryz.zeroValue3 (mapp2 rfl rfl) (fun v14_3 w14_3 o14_3 e14_3 => ?_))
  have zv8_4_v14_3 := own_apart o8_4.1 o14_3.1
  have zv14_3_v8_4 := fun k hk hk2 => zv8_4_v14_3 k hk2 hk
  replace o14_3 := o14_3.low hE.size
  replace hE := hE.trans e14_3
  replace o8_4 := o8_4.ext e14_3
  refine L (D_appendL elt3 Tryz.underlying126 rfl rfl o8_4 (Nat.le_refl _) o14_3.ls (by (try simp only [List.length_take, List.length_drop, List.length_append, List.length_cons, List.length_nil, List.length_replicate, List.length_set, Nm.b_len, be2_len]); omega) (by (try simp only [List.length_take, List.length_drop, List.length_append, List.length_cons, List.length_nil, List.length_replicate, List.length_set, Nm.b_len, be2_len]); omega) hE.size (fun v14_4 w14_4 o14_4 g14_4 f14_4 sv14_4 => ?_))
  have zv14_3_v14_4 : ∀ k, Value.ownBlock v14_3 = some k → Value.ownBlock v14_4 ≠ some k := fun k hk2 hk => (sv14_4 _ hk).elim (fun h => zv14_3_v8_4 k hk2 h) (fun h => absurd h (Nat.not_le.2 (own_lt o14_3.1 hk2)))
  have zv14_4_v14_3 := fun k hk hk2 => zv14_3_v14_4 k hk2 hk
  replace hE := hE.grown g14_4 (fun k hk => own_ge o8_4.1 hk)
  replace o14_3 := o14_3.grown g14_4 (zv14_3_v8_4) f14_4
  refine L (D_v (R_assign rfl) ?_)
  refine S_nil ?_
  refine T_tn ?_
  refine W_region ?_
  refine L (D_v (R_move rfl) ?_)
  refine L (D_v (R_move rfl) ?_)
  refine L (D_v (R_move rfl) ?_)
  refine L (D_v (R_addN (m := ((m).b1.toNat / 16)) (j := ((m).b1.toNat % 16)) rfl rfl (by (try simp only [List.length_take, List.length_drop, List.length_append, List.length_cons, List.length_nil, List.length_replicate, List.length_set, Nm.b_len, be2_len]); omega)) ?_)
  refine L (D_v (R_subN (m := (240 - (((m).b0.toNat / 16) + ((m).b0.toNat % 16)))) (j := (((m).b1.toNat / 16) + ((m).b1.toNat % 16))) rfl rfl (by (try simp only [List.length_take, List.length_drop, List.length_append, List.length_cons, List.length_nil, List.length_replicate, List.length_set, Nm.b_len, be2_len]); omega) (by (try simp only [List.length_take, List.length_drop, List.length_append, List.length_cons, List.length_nil, List.length_replicate, List.length_set, Nm.b_len, be2_len]); omega)) ?_)
  refine L (D_v (R_assign rfl) ?_)
  refine S_nil ?_
  refine T_bn ?_
  refine T_tn ?_
  refine W_region ?_
  refine L (D_v (R_cast (v' := .int .i64 (2)) (R_addI rfl rfl) rfl) ?_)
  refine L (D_v (R_move rfl) ?_)
  refine S_nil ?_
  refine T_tn ?_
  refine W_round ?_
  refine wp_seq ?_
  refine W_region ?_
  refine L (D_v (R_cast (v' := .bool true) (R_lssI rfl rfl) rfl) ?_)
  refine S_nil ?_
  refine T_tn ?_
  refine wp_seq ?_
  refine W_ift rfl ?_
  refine wp_skip ?_
  refine T_tn ?_
  refine wp_seq ?_
  refine wp_block ?_
  refine wp_seq ?_
  refine W_region ?_
  refine L (D_v (R_index Tryz.runUnderlying29 Tryz.sizeOf5 Tryz.isAgg5 rfl rfl rfl (by decide) (by decide)) ?_)
  refine L (D_v (R_assign rfl) ?_)
  refine S_nil ?_
  refine T_tn ?_
  refine wp_seq ?_
  refine W_region ?_
  refine L (D_v (R_move rfl) ?_)
  refine L (D_v (R_shrB rfl rfl) ?_)
  refine L (D_v (R_convN (e := ((m).b2.toNat / 16)) Tryz.runUnderlying5 Tryz.runUnderlying3 rfl (by (try simp only [List.length_take, List.length_drop, List.length_append, List.length_cons, List.length_nil, List.length_replicate, List.length_set, Nm.b_len, be2_len]); omega)) ?_)
  refine L (D_v (R_move rfl) ?_)
  refine L (D_v (R_andB rfl rfl) ?_)
  refine L (D_v (R_convN (e := ((m).b2.toNat % 16)) Tryz.runUnderlying5 Tryz.runUnderlying3 rfl (by (try simp only [List.length_take, List.length_drop, List.length_append, List.length_cons, List.length_nil, List.length_replicate, List.length_set, Nm.b_len, be2_len]); omega)) ?_)
  refine L (D_v (R_assign rfl) ?_)
  refine L (D_v (R_assign rfl) ?_)
  refine S_nil ?_
  refine T_tn ?_
  refine wp_seq ?_
  refine W_region ?_
  refine L (D_v (R_move rfl) ?_)
  refine L (D_v (R_move rfl) ?_)
  refine L (D_v (R_move rfl) ?_)
  refine L (D_buildI2 (lo := w.heap.size) (a := ((m).b2.toNat / 16)) (b := ((m).b2.toNat % 16)) Tryz.underlying126 Tryz.sizeOf3 Tryz.zeroValue3 (mapp2 rfl rfl) (fun v20_3 w20_3 o20_3 e20_3 => ?_))
  have zv14_4_v20_3 := own_apart o14_4.1 o20_3.1
  have zv20_3_v14_4 := fun k hk hk2 => zv14_4_v20_3 k hk2 hk
  replace o20_3 := o20_3.low hE.size
  replace hE := hE.trans e20_3
  replace o14_4 := o14_4.ext e20_3
  refine L (D_appendL elt3 Tryz.underlying126 rfl rfl o14_4 (Nat.le_refl _) o20_3.ls (by (try simp only [List.length_take, List.length_drop, List.length_append, List.length_cons, List.length_nil, List.length_replicate, List.length_set, Nm.b_len, be2_len]); omega) (by (try simp only [List.length_take, List.length_drop, List.length_append, List.length_cons, List.length_nil, List.length_replicate, List.length_set, Nm.b_len, be2_len]); omega) hE.size (fun v20_4 w20_4 o20_4 g20_4 f20_4 sv20_4 => ?_))
  have zv20_3_v20_4 : ∀ k, Value.ownBlock v20_3 = some k → Value.ownBlock v20_4 ≠ some k := fun k hk2 hk => (sv20_4 _ hk).elim (fun h => zv20_3_v14_4 k hk2 h) (fun h => absurd h (Nat.not_le.2 (own_lt o20_3.1 hk2)))
  have zv20_4_v20_3 := fun k hk hk2 => zv20_3_v20_4 k hk2 hk
  replace hE := hE.grown g20_4 (fun k hk => own_ge o14_4.1 hk)
  replace o20_3 := o20_3.grown g20_4 (zv20_3_v14_4) f20_4
  refine L (D_v (R_assign rfl) ?_)
  refine S_nil ?_
  refine T_tn ?_
  refine W_region ?_
  refine L (D_v (R_move rfl) ?_)
  refine L (D_v (R_move rfl) ?_)
  refine L (D_v (R_move rfl) ?_)
  refine L (D_v (R_addN (m := ((m).b2.toNat / 16)) (j := ((m).b2.toNat % 16)) rfl rfl (by (try simp only [List.length_take, List.length_drop, List.length_append, List.length_cons, List.length_nil, List.length_replicate, List.length_set, Nm.b_len, be2_len]); omega)) ?_)
  refine L (D_v (R_subN (m := ((240 - (((m).b0.toNat / 16) + ((m).b0.toNat % 16))) - (((m).b1.toNat / 16) + ((m).b1.toNat % 16)))) (j := (((m).b2.toNat / 16) + ((m).b2.toNat % 16))) rfl rfl (by (try simp only [List.length_take, List.length_drop, List.length_append, List.length_cons, List.length_nil, List.length_replicate, List.length_set, Nm.b_len, be2_len]); omega) (by (try simp only [List.length_take, List.length_drop, List.length_append, List.length_cons, List.length_nil, List.length_replicate, List.length_set, Nm.b_len, be2_len]); omega)) ?_)
  refine L (D_v (R_assign rfl) ?_)
  refine S_nil ?_
  refine T_bn ?_
  refine T_tn ?_
  refine W_region ?_
  refine L (D_v (R_cast (v' := .int .i64 (3)) (R_addI rfl rfl) rfl) ?_)
  refine L (D_v (R_move rfl) ?_)
  refine S_nil ?_
  refine T_tn ?_
  refine W_round ?_
  refine wp_seq ?_
  refine W_region ?_
  refine L (D_v (R_cast (v' := .bool true) (R_lssI rfl rfl) rfl) ?_)
  refine S_nil ?_
  refine T_tn ?_
  refine wp_seq ?_
  refine W_ift rfl ?_
  refine wp_skip ?_
  refine T_tn ?_
  refine wp_seq ?_
  refine wp_block ?_
  refine wp_seq ?_
  refine W_region ?_
  refine L (D_v (R_index Tryz.runUnderlying29 Tryz.sizeOf5 Tryz.isAgg5 rfl rfl rfl (by decide) (by decide)) ?_)
  refine L (D_v (R_assign rfl) ?_)
  refine S_nil ?_
  refine T_tn ?_
  refine wp_seq ?_
  refine W_region ?_
  refine L (D_v (R_move rfl) ?_)
  refine L (D_v (R_shrB rfl rfl) ?_)
  refine L (D_v (R_convN (e := ((m).b3.toNat / 16)) Tryz.runUnderlying5 Tryz.runUnderlying3 rfl (by (try simp only [List.length_take, List.length_drop, List.length_append, List.length_cons, List.length_nil, List.length_replicate, List.length_set, Nm.b_len, be2_len]); omega)) ?_)
  refine L (D_v (R_move rfl) ?_)
  refine L (D_v (R_andB rfl rfl) ?_)
  refine L (D_v (R_convN (e := ((m).b3.toNat % 16)) Tryz.runUnderlying5 Tryz.runUnderlying3 rfl (by (try simp only [List.length_take, List.length_drop, List.length_append, List.length_cons, List.length_nil, List.length_replicate, List.length_set, Nm.b_len, be2_len]); omega)) ?_)
  refine L (D_v (R_assign rfl) ?_)
  refine L (D_v (R_assign rfl) ?_)
  refine S_nil ?_
  refine T_tn ?_
  refine wp_seq ?_
  refine W_region ?_
  refine L (D_v (R_move rfl) ?_)
  refine L (D_v (R_move rfl) ?_)
  refine L (D_v (R_move rfl) ?_)
  refine L (D_buildI2 (lo := w.heap.size) (a := ((m).b3.toNat / 16)) (b := ((m).b3.toNat % 16)) Tryz.underlying126 Tryz.sizeOf3 Tryz.zeroValue3 (mapp2 rfl rfl) (fun v26_3 w26_3 o26_3 e26_3 => ?_))
  have zv20_4_v26_3 := own_apart o20_4.1 o26_3.1
  have zv26_3_v20_4 := fun k hk hk2 => zv20_4_v26_3 k hk2 hk
  replace o26_3 := o26_3.low hE.size
  replace hE := hE.trans e26_3
  replace o20_4 := o20_4.ext e26_3
  refine L (D_appendL elt3 Tryz.underlying126 rfl rfl o20_4 (Nat.le_refl _) o26_3.ls (by (try simp only [List.length_take, List.length_drop, List.length_append, List.length_cons, List.length_nil, List.length_replicate, List.length_set, Nm.b_len, be2_len]); omega) (by (try simp only [List.length_take, List.length_drop, List.length_append, List.length_cons, List.length_nil, List.length_replicate, List.length_set, Nm.b_len, be2_len]); omega) hE.size (fun v26_4 w26_4 o26_4 g26_4 f26_4 sv26_4 => ?_))
  have zv26_3_v26_4 : ∀ k, Value.ownBlock v26_3 = some k → Value.ownBlock v26_4 ≠ some k := fun k hk2 hk => (sv26_4 _ hk).elim (fun h => zv26_3_v20_4 k hk2 h) (fun h => absurd h (Nat.not_le.2 (own_lt o26_3.1 hk2)))
  have zv26_4_v26_3 := fun k hk hk2 => zv26_3_v26_4 k hk2 hk
  replace hE := hE.grown g26_4 (fun k hk => own_ge o20_4.1 hk)
  replace o26_3 := o26_3.grown g26_4 (zv26_3_v20_4) f26_4
  refine L (D_v (R_assign rfl) ?_)
  refine S_nil ?_
  refine T_tn ?_
  refine W_region ?_
  refine L (D_v (R_move rfl) ?_)
  refine L (D_v (R_move rfl) ?_)
  refine L (D_v (R_move rfl) ?_)
  refine L (D_v (R_addN (m := ((m).b3.toNat / 16)) (j := ((m).b3.toNat % 16)) rfl rfl (by (try simp only [List.length_take, List.length_drop, List.length_append, List.length_cons, List.length_nil, List.length_replicate, List.length_set, Nm.b_len, be2_len]); omega)) ?_)
  refine L (D_v (R_subN (m := (((240 - (((m).b0.toNat / 16) + ((m).b0.toNat % 16))) - (((m).b1.toNat / 16) + ((m).b1.toNat % 16))) - (((m).b2.toNat / 16) + ((m).b2.toNat % 16)))) (j := (((m).b3.toNat / 16) + ((m).b3.toNat % 16))) rfl rfl (by (try simp only [List.length_take, List.length_drop, List.length_append, List.length_cons, List.length_nil, List.length_replicate, List.length_set, Nm.b_len, be2_len]); omega) (by (try simp only [List.length_take, List.length_drop, List.length_append, List.length_cons, List.length_nil, List.length_replicate, List.length_set, Nm.b_len, be2_len]); omega)) ?_)
  refine L (D_v (R_assign rfl) ?_)
  refine S_nil ?_
  refine T_bn ?_
  refine T_tn ?_
  refine W_region ?_
  refine L (D_v (R_cast (v' := .int .i64 (4)) (R_addI rfl rfl) rfl) ?_)
  refine L (D_v (R_move rfl) ?_)
  refine S_nil ?_
  refine T_tn ?_
  refine W_round ?_
  refine wp_seq ?_
  refine W_region ?_
  refine L (D_v (R_cast (v' := .bool true) (R_lssI rfl rfl) rfl) ?_)
  refine S_nil ?_
  refine T_tn ?_
  refine wp_seq ?_
  refine W_ift rfl ?_
  refine wp_skip ?_
  refine T_tn ?_
  refine wp_seq ?_
  refine wp_block ?_
  refine wp_seq ?_
  refine W_region ?_
  refine L (D_v (R_index Tryz.runUnderlying29 Tryz.sizeOf5 Tryz.isAgg5 rfl rfl rfl (by decide) (by decide)) ?_)
  refine L (D_v (R_assign rfl) ?_)
  refine S_nil ?_
  refine T_tn ?_
  refine wp_seq ?_
  refine W_region ?_
  refine L (D_v (R_move rfl) ?_)
  refine L (D_v (R_shrB rfl rfl) ?_)
  refine L (D_v (R_convN (e := ((m).b4.toNat / 16)) Tryz.runUnderlying5 Tryz.runUnderlying3 rfl (by (try simp only [List.length_take, List.length_drop, List.length_append, List.length_cons, List.length_nil, List.length_replicate, List.length_set, Nm.b_len, be2_len]); omega)) ?_)
  refine L (D_v (R_move rfl) ?_)
  refine L (D_v (R_andB rfl rfl) ?_)
  refine L (D_v (R_convN (e := ((m).b4.toNat % 16)) Tryz.runUnderlying5 Tryz.runUnderlying3 rfl (by (try simp only [List.length_take, List.length_drop, List.length_append, List.length_cons, List.length_nil, List.length_replicate, List.length_set, Nm.b_len, be2_len]); omega)) ?_)
  refine L (D_v (R_assign rfl) ?_)
  refine L (D_v (R_assign rfl) ?_)
  refine S_nil ?_
  refine T_tn ?_
  refine wp_seq ?_
  refine W_region ?_
  refine L (D_v (R_move rfl) ?_)
  refine L (D_v (R_move rfl) ?_)
  refine L (D_v (R_move rfl) ?_)
  refine L (D_buildI2 (lo := w.heap.size) (a := ((m).b4.toNat / 16)) (b := ((m).b4.toNat % 16)) Tryz.underlying126 Tryz.sizeOf3 Tryz.zeroValue3 (mapp2 rfl rfl) (fun v32_3 w32_3 o32_3 e32_3 => ?_))
  have zv26_4_v32_3 := own_apart o26_4.1 o32_3.1
  have zv32_3_v26_4 := fun k hk hk2 => zv26_4_v32_3 k hk2 hk
  replace o32_3 := o32_3.low hE.size
  replace hE := hE.trans e32_3
  replace o26_4 := o26_4.ext e32_3
  refine L (D_appendL elt3 Tryz.underlying126 rfl rfl o26_4 (Nat.le_refl _) o32_3.ls (by (try simp only [List.length_take, List.length_drop, List.length_append, List.length_cons, List.length_nil, List.length_replicate, List.length_set, Nm.b_len, be2_len]); omega) (by (try simp only [List.length_take, List.length_drop, List.length_append, List.length_cons, List.length_nil, List.length_replicate, List.length_set, Nm.b_len, be2_len]); omega) hE.size (fun v32_4 w32_4 o32_4 g32_4 f32_4 sv32_4 => ?_))
  have zv32_3_v32_4 : ∀ k, Value.ownBlock v32_3 = some k → Value.ownBlock v32_4 ≠ some k := fun k hk2 hk => (sv32_4 _ hk).elim (fun h => zv32_3_v26_4 k hk2 h) (fun h => absurd h (Nat.not_le.2 (own_lt o32_3.1 hk2)))
  have zv32_4_v32_3 := fun k hk hk2 => zv32_3_v32_4 k hk2 hk
  replace hE := hE.grown g32_4 (fun k hk => own_ge o26_4.1 hk)
  replace o32_3 := o32_3.grown g32_4 (zv32_3_v26_4) f32_4
  refine L (D_v (R_assign rfl) ?_)
  refine S_nil ?_
  refine T_tn ?_
  refine W_region ?_
  refine L (D_v (R_move rfl) ?_)
  refine L (D_v (R_move rfl) ?_)
  refine L (D_v (R_move rfl) ?_)
  refine L (D_v (R_addN (m := ((m).b4.toNat / 16)) (j := ((m).b4.toNat % 16)) rfl rfl (by (try simp only [List.length_take, List.length_drop, List.length_append, List.length_cons, List.length_nil, List.length_replicate, List.length_set, Nm.b_len, be2_len]); omega)) ?_)
  refine L (D_v (R_subN (m := ((((240 - (((m).b0.toNat / 16) + ((m).b0.toNat % 16))) - (((m).b1.toNat / 16) + ((m).b1.toNat % 16))) - (((m).b2.toNat / 16) + ((m).b2.toNat % 16))) - (((m).b3.toNat / 16) + ((m).b3.toNat % 16)))) (j := (((m).b4.toNat / 16) + ((m).b4.toNat % 16))) rfl rfl (by (try simp only [List.length_take, List.length_drop, List.length_append, List.length_cons, List.length_nil, List.length_replicate, List.length_set, Nm.b_len, be2_len]); omega) (by (try simp only [List.length_take, List.length_drop, List.length_append, List.length_cons, List.length_nil, List.length_replicate, List.length_set, Nm.b_len, be2_len]); omega)) ?_)
  refine L (D_v (R_assign rfl) ?_)
  refine S_nil ?_
  refine T_bn ?_
  refine T_tn ?_
  refine W_region ?_
  refine L (D_v (R_cast (v' := .int .i64 (5)) (R_addI rfl rfl) rfl) ?_)
  refine L (D_v (R_move rfl) ?_)
  refine S_nil ?_
  refine T_tn ?_
  refine W_round ?_
  refine wp_seq ?_
  refine W_region ?_
  refine L (D_v (R_cast (v' := .bool true) (R_lssI rfl rfl) rfl) ?_)
  refine S_nil ?_
  refine T_tn ?_
  refine wp_seq ?_
  refine W_ift rfl ?_
  refine wp_skip ?_
  refine T_tn ?_
  refine wp_seq ?_
  refine wp_block ?_
  refine wp_seq ?_
  refine W_region ?_
  refine L (D_v (R_index Tryz.runUnderlying29 Tryz.sizeOf5 Tryz.isAgg5 rfl rfl rfl (by decide) (by decide)) ?_)
  refine L (D_v (R_assign rfl) ?_)
  refine S_nil ?_
  refine T_tn ?_
  refine wp_seq ?_
  refine W_region ?_
  refine L (D_v (R_move rfl) ?_)
  refine L (D_v (R_shrB rfl rfl) ?_)
  refine L (D_v (R_convN (e := ((m).b5.toNat / 16)) Tryz.runUnderlying5 Tryz.runUnderlying3 rfl (by (try simp only [List.length_take, List.length_drop, List.length_append, List.length_cons, List.length_nil, List.length_replicate, List.length_set, Nm.b_len, be2_len]); omega)) ?_)
  refine L (D_v (R_move rfl) ?_)
  refine L (D_v (R_andB rfl rfl) ?_)
  refine L (D_v (R_convN (e := ((m).b5.toNat % 16)) Tryz.runUnderlying5 Tryz.runUnderlying3 rfl (by (try simp only [List.length_take, List.length_drop, List.length_append, List.length_cons, List.length_nil, List.length_replicate, List.length_set, Nm.b_len, be2_len]); omega)) ?_)
  refine L (D_v (R_assign rfl) ?_)
  refine L (D_v (R_assign rfl) ?_)
  refine S_nil ?_
  refine T_tn ?_
  refine wp_seq ?_
  refine W_region ?_
  refine L (D_v (R_move rfl) ?_)
  refine L (D_v (R_move rfl) ?_)
  refine L (D_v (R_move rfl) ?_)
  refine L (D_buildI2 (lo := w.heap.size) (a := ((m).b5.toNat / 16)) (b := ((m).b5.toNat % 16)) Tryz.underlying126 Tryz.sizeOf3 Tryz.zeroValue3 (mapp2 rfl rfl) (fun v38_3 w38_3 o38_3 e38_3 => ?_))
  have zv32_4_v38_3 := own_apart o32_4.1 o38_3.1
  have zv38_3_v32_4 := fun k hk hk2 => zv32_4_v38_3 k hk2 hk
  replace o38_3 := o38_3.low hE.size
  replace hE := hE.trans e38_3
  replace o32_4 := o32_4.ext e38_3
  refine L (D_appendL elt3 Tryz.underlying126 rfl rfl o32_4 (Nat.le_refl _) o38_3.ls (by (try simp only [List.length_take, List.length_drop, List.length_append, List.length_cons, List.length_nil, List.length_replicate, List.length_set, Nm.b_len, be2_len]); omega) (by (try simp only [List.length_take, List.length_drop, List.length_append, List.length_cons, List.length_nil, List.length_replicate, List.length_set, Nm.b_len, be2_len]); omega) hE.size (fun v38_4 w38_4 o38_4 g38_4 f38_4 sv38_4 => ?_))
  have zv38_3_v38_4 : ∀ k, Value.ownBlock v38_3 = some k → Value.ownBlock v38_4 ≠ some k := fun k hk2 hk => (sv38_4 _ hk).elim (fun h => zv38_3_v32_4 k hk2 h) (fun h => absurd h (Nat.not_le.2 (own_lt o38_3.1 hk2)))
  have zv38_4_v38_3 := fun k hk hk2 => zv38_3_v38_4 k hk2 hk
  replace hE := hE.grown g38_4 (fun k hk => own_ge o32_4.1 hk)
  replace o38_3 := o38_3.grown g38_4 (zv38_3_v32_4) f38_4
  refine L (D_v (R_assign rfl) ?_)
  refine S_nil ?_
  refine T_tn ?_
  refine W_region ?_
  refine L (D_v (R_move rfl) ?_)
  refine L (D_v (R_move rfl) ?_)
  refine L (D_v (R_move rfl) ?_)
  refine L (D_v (R_addN (m := ((m).b5.toNat / 16)) (j := ((m).b5.toNat % 16)) rfl rfl (by (try simp only [List.length_take, List.length_drop, List.length_append, List.length_cons, List.length_nil, List.length_replicate, List.length_set, Nm.b_len, be2_len]); omega)) ?_)
  refine L (D_v (R_subN (m := (((((240 - (((m).b0.toNat / 16) + ((m).b0.toNat % 16))) - (((m).b1.toNat / 16) + ((m).b1.toNat % 16))) - (((m).b2.toNat / 16) + ((m).b2.toNat % 16))) - (((m).b3.toNat / 16) + ((m).b3.toNat % 16))) - (((m).b4.toNat / 16) + ((m).b4.toNat % 16)))) (j := (((m).b5.toNat / 16) + ((m).b5.toNat % 16))) rfl rfl (by (try simp only [List.length_take, List.length_drop, List.length_append, List.length_cons, List.length_nil, List.length_replicate, List.length_set, Nm.b_len, be2_len]); omega) (by (try simp only [List.length_take, List.length_drop, List.length_append, List.length_cons, List.length_nil, List.length_replicate, List.length_set, Nm.b_len, be2_len]); omega)) ?_)
  refine L (D_v (R_assign rfl) ?_)
  refine S_nil ?_
  refine T_bn ?_
  refine T_tn ?_
  refine W_region ?_
  refine L (D_v (R_cast (v' := .int .i64 (6)) (R_addI rfl rfl) rfl) ?_)
  refine L (D_v (R_move rfl) ?_)
  refine S_nil ?_
  refine T_tn ?_
  refine W_round ?_
  refine wp_seq ?_
  refine W_region ?_
  refine L (D_v (R_cast (v' := .bool true) (R_lssI rfl rfl) rfl) ?_)
  refine S_nil ?_
  refine T_tn ?_
  refine wp_seq ?_
  refine W_ift rfl ?_
  refine wp_skip ?_
  refine T_tn ?_
  refine wp_seq ?_
  refine wp_block ?_
  refine wp_seq ?_
  refine W_region ?_
  refine L (D_v (R_index Tryz.runUnderlying29 Tryz.sizeOf5 Tryz.isAgg5 rfl rfl rfl (by decide) (by decide)) ?_)
  refine L (D_v (R_assign rfl) ?_)
  refine S_nil ?_
  refine T_tn ?_
  refine wp_seq ?_
  refine W_region ?_
  refine L (D_v (R_move rfl) ?_)
  refine L (D_v (R_shrB rfl rfl) ?_)
  refine L (D_v (R_convN (e := ((m).b6.toNat / 16)) Tryz.runUnderlying5 Tryz.runUnderlying3 rfl (by (try simp only [List.length_take, List.length_drop, List.length_append, List.length_cons, List.length_nil, List.length_replicate, List.length_set, Nm.b_len, be2_len]); omega)) ?_)
  refine L (D_v (R_move rfl) ?_)
  refine L (D_v (R_andB rfl rfl) ?_)
  refine L (D_v (R_convN (e := ((m).b6.toNat % 16)) Tryz.runUnderlying5 Tryz.runUnderlying3 rfl (by (try simp only [List.length_take, List.length_drop, List.length_append, List.length_cons, List.length_nil, List.length_replicate, List.length_set, Nm.b_len, be2_len]); omega)) ?_)
  refine L (D_v (R_assign rfl) ?_)
  refine L (D_v (R_assign rfl) ?_)
  refine S_nil ?_
  refine T_tn ?_
  refine wp_seq ?_
  refine W_region ?_
  refine L (D_v (R_move rfl) ?_)
  refine L (D_v (R_move rfl) ?_)
  refine L (D_v (R_move rfl) ?_)
  refine L (D_buildI2 (lo := w.heap.size) (a := ((m).b6.toNat / 16)) (b := ((m).b6.toNat % 16)) Tryz.underlying126 Tryz.sizeOf3 Tryz.zeroValue3 (mapp2 rfl rfl) (fun v44_3 w44_3 o44_3 e44_3 => ?_))
  have zv38_4_v44_3 := own_apart o38_4.1 o44_3.1
  have zv44_3_v38_4 := fun k hk hk2 => zv38_4_v44_3 k hk2 hk
  replace o44_3 := o44_3.low hE.size
  replace hE := hE.trans e44_3
  replace o38_4 := o38_4.ext e44_3
  refine L (D_appendL elt3 Tryz.underlying126 rfl rfl o38_4 (Nat.le_refl _) o44_3.ls (by (try simp only [List.length_take, List.length_drop, List.length_append, List.length_cons, List.length_nil, List.length_replicate, List.length_set, Nm.b_len, be2_len]); omega) (by (try simp only [List.length_take, List.length_drop, List.length_append, List.length_cons, List.length_nil, List.length_replicate, List.length_set, Nm.b_len, be2_len]); omega) hE.size (fun v44_4 w44_4 o44_4 g44_4 f44_4 sv44_4 => ?_))
  have zv44_3_v44_4 : ∀ k, Value.ownBlock v44_3 = some k → Value.ownBlock v44_4 ≠ some k := fun k hk2 hk => (sv44_4 _ hk).elim (fun h => zv44_3_v38_4 k hk2 h) (fun h => absurd h (Nat.not_le.2 (own_lt o44_3.1 hk2)))
  have zv44_4_v44_3 := fun k hk hk2 => zv44_3_v44_4 k hk2 hk
  replace hE := hE.grown g44_4 (fun k hk => own_ge o38_4.1 hk)
  replace o44_3 := o44_3.grown g44_4 (zv44_3_v38_4) f44_4
  refine L (D_v (R_assign rfl) ?_)
  refine S_nil ?_
  refine T_tn ?_
  refine W_region ?_
  refine L (D_v (R_move rfl) ?_)
  refine L (D_v (R_move rfl) ?_)
  refine L (D_v (R_move rfl) ?_)
  refine L (D_v (R_addN (m := ((m).b6.toNat / 16)) (j := ((m).b6.toNat % 16)) rfl rfl (by (try simp only [List.length_take, List.length_drop, List.length_append, List.length_cons, List.length_nil, List.length_replicate, List.length_set, Nm.b_len, be2_len]); omega)) ?_)
  refine L (D_v (R_subN (m := ((((((240 - (((m).b0.toNat / 16) + ((m).b0.toNat % 16))) - (((m).b1.toNat / 16) + ((m).b1.toNat % 16))) - (((m).b2.toNat / 16) + ((m).b2.toNat % 16))) - (((m).b3.toNat / 16) + ((m).b3.toNat % 16))) - (((m).b4.toNat / 16) + ((m).b4.toNat % 16))) - (((m).b5.toNat / 16) + ((m).b5.toNat % 16)))) (j := (((m).b6.toNat / 16) + ((m).b6.toNat % 16))) rfl rfl (by (try simp only [List.length_take, List.length_drop, List.length_append, List.length_cons, List.length_nil, List.length_replicate, List.length_set, Nm.b_len, be2_len]); omega) (by (try simp only [List.length_take, List.length_drop, List.length_append, List.length_cons, List.length_nil, List.length_replicate, List.length_set, Nm.b_len, be2_len]); omega)) ?_)
  refine L (D_v (R_assign rfl) ?_)
  refine S_nil ?_
  refine T_bn ?_
  refine T_tn ?_
  refine W_region ?_
  refine L (D_v (R_cast (v' := .int .i64 (7)) (R_addI rfl rfl) rfl) ?_)
  refine L (D_v (R_move rfl) ?_)
  refine S_nil ?_
  refine T_tn ?_
  refine W_round ?_
  refine wp_seq ?_
  refine W_region ?_
  refine L (D_v (R_cast (v' := .bool true) (R_lssI rfl rfl) rfl) ?_)
  refine S_nil ?_
  refine T_tn ?_
  refine wp_seq ?_
  refine W_ift rfl ?_
  refine wp_skip ?_
  refine T_tn ?_
  refine wp_seq ?_
  refine wp_block ?_
  refine wp_seq ?_
  refine W_region ?_
  refine L (D_v (R_index Tryz.runUnderlying29 Tryz.sizeOf5 Tryz.isAgg5 rfl rfl rfl (by decide) (by decide)) ?_)
  refine L (D_v (R_assign rfl) ?_)
  refine S_nil ?_
  refine T_tn ?_
  refine wp_seq ?_
  refine W_region ?_
  refine L (D_v (R_move rfl) ?_)
  refine L (D_v (R_shrB rfl rfl) ?_)
  refine L (D_v (R_convN (e := ((m).b7.toNat / 16)) Tryz.runUnderlying5 Tryz.runUnderlying3 rfl (by (try simp only [List.length_take, List.length_drop, List.length_append, List.length_cons, List.length_nil, List.length_replicate, List.length_set, Nm.b_len, be2_len]); omega)) ?_)
  refine L (D_v (R_move rfl) ?_)
  refine L (D_v (R_andB rfl rfl) ?_)
  refine L (D_v (R_convN (e := ((m).b7.toNat % 16)) Tryz.runUnderlying5 Tryz.runUnderlying3 rfl (by (try simp only [List.length_take, List.length_drop, List.length_append, List.length_cons, List.length_nil, List.length_replicate, List.length_set, Nm.b_len, be2_len]); omega)) ?_)
  refine L (D_v (R_assign rfl) ?_)
  refine L (D_v (R_assign rfl) ?_)
  refine S_nil ?_
  refine T_tn ?_
  refine wp_seq ?_
  refine W_region ?_
  refine L (D_v (R_move rfl) ?_)
  refine L (D_v (R_move rfl) ?_)
  refine L (D_v (R_move rfl) ?_)
  refine L (D_buildI2 (lo := w.heap.size) (a := ((m).b7.toNat / 16)) (b := ((m).b7.toNat % 16)) Tryz.underlying126 Tryz.sizeOf3 Tryz.zeroValue3 (mapp2 rfl rfl) (fun v50_3 w50_3 o50_3 e50_3 => ?_))
  have zv44_4_v50_3 := own_apart o44_4.1 o50_3.1
  have zv50_3_v44_4 := fun k hk hk2 => zv44_4_v50_3 k hk2 hk
  replace o50_3 := o50_3.low hE.size
  replace hE := hE.trans e50_3
  replace o44_4 := o44_4.ext e50_3
  refine L (D_appendL elt3 Tryz.underlying126 rfl rfl o44_4 (Nat.le_refl _) o50_3.ls (by (try simp only [List.length_take, List.length_drop, List.length_append, List.length_cons, List.length_nil, List.length_replicate, List.length_set, Nm.b_len, be2_len]); omega) (by (try simp only [List.length_take, List.length_drop, List.length_append, List.length_cons, List.length_nil, List.length_replicate, List.length_set, Nm.b_len, be2_len]); omega) hE.size (fun v50_4 w50_4 o50_4 g50_4 f50_4 sv50_4 => ?_))
  have zv50_3_v50_4 : ∀ k, Value.ownBlock v50_3 = some k → Value.ownBlock v50_4 ≠ some k := fun k hk2 hk => (sv50_4 _ hk).elim (fun h => zv50_3_v44_4 k hk2 h) (fun h => absurd h (Nat.not_le.2 (own_lt o50_3.1 hk2)))
  have zv50_4_v50_3 := fun k hk hk2 => zv50_3_v50_4 k hk2 hk
  replace hE := hE.grown g50_4 (fun k hk => own_ge o44_4.1 hk)
  replace o50_3 := o50_3.grown g50_4 (zv50_3_v44_4) f50_4
  refine L (D_v (R_assign rfl) ?_)
  refine S_nil ?_
  refine T_tn ?_
  refine W_region ?_
  refine L (D_v (R_move rfl) ?_)
  refine L (D_v (R_move rfl) ?_)
  refine L (D_v (R_move rfl) ?_)
  refine L (D_v (R_addN (m := ((m).b7.toNat / 16)) (j := ((m).b7.toNat % 16)) rfl rfl (by (try simp only [List.length_take, List.length_drop, List.length_append, List.length_cons, List.length_nil, List.length_replicate, List.length_set, Nm.b_len, be2_len]); omega)) ?_)
  refine L (D_v (R_subN (m := (((((((240 - (((m).b0.toNat / 16) + ((m).b0.toNat % 16))) - (((m).b1.toNat / 16) + ((m).b1.toNat % 16))) - (((m).b2.toNat / 16) + ((m).b2.toNat % 16))) - (((m).b3.toNat / 16) + ((m).b3.toNat % 16))) - (((m).b4.toNat / 16) + ((m).b4.toNat % 16))) - (((m).b5.toNat / 16) + ((m).b5.toNat % 16))) - (((m).b6.toNat / 16) + ((m).b6.toNat % 16)))) (j := (((m).b7.toNat / 16) + ((m).b7.toNat % 16))) rfl rfl (by (try simp only [List.length_take, List.length_drop, List.length_append, List.length_cons, List.length_nil, List.length_replicate, List.length_set, Nm.b_len, be2_len]); omega) (by (try simp only [List.length_take, List.length_drop, List.length_append, List.length_cons, List.length_nil, List.length_replicate, List.length_set, Nm.b_len, be2_len]); omega)) ?_)
  refine L (D_v (R_assign rfl) ?_)
  refine S_nil ?_
  refine T_bn ?_
  refine T_tn ?_
  refine W_region ?_
  refine L (D_v (R_cast (v' := .int .i64 (8)) (R_addI rfl rfl) rfl) ?_)
  refine L (D_v (R_move rfl) ?_)
  refine S_nil ?_
  refine T_tn ?_
  refine W_round ?_
  refine wp_seq ?_
  refine W_region ?_
  refine L (D_v (R_cast (v' := .bool false) (R_lssI rfl rfl) rfl) ?_)
  refine S_nil ?_
  refine T_tn ?_
  refine wp_seq ?_
  refine W_iff rfl ?_
  refine wp_exit ?_
  refine T_te ?_
  refine T_te ?_
  refine T_be ?_
  refine T_tn ?_
  refine wp_seq ?_
  refine W_region ?_
  refine L (D_v (R_move rfl) ?_)
  refine L (D_v (R_move rfl) ?_)
  refine L (D_v (R_shrN (m := ((((((((240 - (((m).b0.toNat / 16) + ((m).b0.toNat % 16))) - (((m).b1.toNat / 16) + ((m).b1.toNat % 16))) - (((m).b2.toNat / 16) + ((m).b2.toNat % 16))) - (((m).b3.toNat / 16) + ((m).b3.toNat % 16))) - (((m).b4.toNat / 16) + ((m).b4.toNat % 16))) - (((m).b5.toNat / 16) + ((m).b5.toNat % 16))) - (((m).b6.toNat / 16) + ((m).b6.toNat % 16))) - (((m).b7.toNat / 16) + ((m).b7.toNat % 16)))) rfl rfl) ?_)
  refine L (D_v (R_move rfl) ?_)
  refine L (D_v (R_andN (m := ((((((((240 - (((m).b0.toNat / 16) + ((m).b0.toNat % 16))) - (((m).b1.toNat / 16) + ((m).b1.toNat % 16))) - (((m).b2.toNat / 16) + ((m).b2.toNat % 16))) - (((m).b3.toNat / 16) + ((m).b3.toNat % 16))) - (((m).b4.toNat / 16) + ((m).b4.toNat % 16))) - (((m).b5.toNat / 16) + ((m).b5.toNat % 16))) - (((m).b6.toNat / 16) + ((m).b6.toNat % 16))) - (((m).b7.toNat / 16) + ((m).b7.toNat % 16)))) rfl rfl (by (try simp only [List.length_take, List.length_drop, List.length_append, List.length_cons, List.length_nil, List.length_replicate, List.length_set, Nm.b_len, be2_len]); omega)) ?_)
  refine L (D_buildI2 (lo := w.heap.size) (a := (((((((((240 - (((m).b0.toNat / 16) + ((m).b0.toNat % 16))) - (((m).b1.toNat / 16) + ((m).b1.toNat % 16))) - (((m).b2.toNat / 16) + ((m).b2.toNat % 16))) - (((m).b3.toNat / 16) + ((m).b3.toNat % 16))) - (((m).b4.toNat / 16) + ((m).b4.toNat % 16))) - (((m).b5.toNat / 16) + ((m).b5.toNat % 16))) - (((m).b6.toNat / 16) + ((m).b6.toNat % 16))) - (((m).b7.toNat / 16) + ((m).b7.toNat % 16))) / 16)) (b := (((((((((240 - (((m).b0.toNat / 16) + ((m).b0.toNat % 16))) - (((m).b1.toNat / 16) + ((m).b1.toNat % 16))) - (((m).b2.toNat / 16) + ((m).b2.toNat % 16))) - (((m).b3.toNat / 16) + ((m).b3.toNat % 16))) - (((m).b4.toNat / 16) + ((m).b4.toNat % 16))) - (((m).b5.toNat / 16) + ((m).b5.toNat % 16))) - (((m).b6.toNat / 16) + ((m).b6.toNat % 16))) - (((m).b7.toNat / 16) + ((m).b7.toNat % 16))) % 16)) Tryz.underlying126 Tryz.sizeOf3 Tryz.zeroValue3 (mapp2 rfl rfl) (fun v54_5 w54_5 o54_5 e54_5 => ?_))
  have zv50_4_v54_5 := own_apart o50_4.1 o54_5.1
  have zv54_5_v50_4 := fun k hk hk2 => zv50_4_v54_5 k hk2 hk
  replace o54_5 := o54_5.low hE.size
  replace hE := hE.trans e54_5
  replace o50_4 := o50_4.ext e54_5
  refine L (D_appendL elt3 Tryz.underlying126 rfl rfl o50_4 (Nat.le_refl _) o54_5.ls (by (try simp only [List.length_take, List.length_drop, List.length_append, List.length_cons, List.length_nil, List.length_replicate, List.length_set, Nm.b_len, be2_len]); omega) (by (try simp only [List.length_take, List.length_drop, List.length_append, List.length_cons, List.length_nil, List.length_replicate, List.length_set, Nm.b_len, be2_len]); omega) hE.size (fun v54_6 w54_6 o54_6 g54_6 f54_6 sv54_6 => ?_))
  have zv54_5_v54_6 : ∀ k, Value.ownBlock v54_5 = some k → Value.ownBlock v54_6 ≠ some k := fun k hk2 hk => (sv54_6 _ hk).elim (fun h => zv54_5_v50_4 k hk2 h) (fun h => absurd h (Nat.not_le.2 (own_lt o54_5.1 hk2)))
  have zv54_6_v54_5 := fun k hk hk2 => zv54_5_v54_6 k hk2 hk
  replace hE := hE.grown g54_6 (fun k hk => own_ge o50_4.1 hk)
  replace o54_5 := o54_5.grown g54_6 (zv54_5_v50_4) f54_6
  refine L (D_v (R_assign rfl) ?_)
  refine S_nil ?_
  refine T_tn ?_
  refine wp_ret ?_
  refine ret1 (v := v54_6) rfl rfl ⟨_, rfl, hE, ?_⟩
  unfold digits drest; simp only [Nat.sub_add_eq]; first | exact o54_6 | (simp only [Nat.sub_add_eq] at o54_6; exact o54_6)
set_option maxRecDepth 4000 in
set_option maxHeartbeats 4000000 in
theorem c143 (m : Nm) (w : World) : Calls Tryz.prog 88 [m.v].toArray w (RetE w fun r w' => Ow cI w.heap.size w.heap.size w' r (digits m)) := by
  refine enter Tryz.func88 Tryz.ntmps88 rfl rfl ?_
  have hE := Ext.refl w
  have hb0 := m.b0.toNat_lt
  have hb1 := m.b1.toNat_lt
  have hb2 := m.b2.toNat_lt
  have hb3 := m.b3.toNat_lt
  have hb4 := m.b4.toNat_lt
  have hb5 := m.b5.toNat_lt
  have hb6 := m.b6.toNat_lt
  have hb7 := m.b7.toNat_lt
  refine wp_seq ?_
  refine W_region ?_
  refine L (D_box (c := (m).l) (rfl) (fun aB1_0 w1_0 e1_0 gB1_0 hB1_0 => ?_))
  have lB1_0 := Nat.le_trans hE.size gB1_0
  replace hE := hE.trans e1_0
  refine L (D_v (R_assign rfl) ?_)
  refine S_nil ?_
  refine T_tn ?_
  refine wp_seq ?_
  refine W_region ?_
  refine L (D_v (R_assign rfl) ?_)
  refine S_nil ?_
  refine T_tn ?_
  refine wp_seq ?_
  refine W_region ?_
  refine L (D_v (R_assign rfl) ?_)
  refine S_nil ?_
  refine T_tn ?_
  refine wp_seq ?_
  refine wp_seq ?_
  refine W_region ?_
  refine L (D_v (R_assign rfl) ?_)
  refine S_nil ?_
  refine T_tn ?_
  refine wp_block ?_
  refine W_unroll 8 ?_
  refine W_round ?_
  refine wp_seq ?_
  refine wp_seq ?_
  refine W_region ?_
  refine L (D_v (R_move rfl) ?_)
  refine L (D_v (R_cast (v' := .bool true) (R_lssI rfl rfl) rfl) ?_)
  refine S_nil ?_
  refine T_tn ?_
  refine W_ift rfl ?_
  refine wp_skip ?_
  refine T_tn ?_
  refine wp_seq ?_
  refine wp_block ?_
  refine wp_seq ?_
  refine W_held (fun W => Ext w W ∧ Blk W aB1_0 (m).l 29 ∧ True) mixed (fun w6_99 e6_99 => ?_)
  replace hE := hE.trans e6_99
  replace hB1_0 := hB1_0.ext e6_99
  refine H_take (i := 0) rfl (by kernel_rfl) (by kernel_rfl) (by kernel_rfl) rfl (pq_then (pq_block (pq_then (pq_then (pq_block (pq_then pq_body)))))) ⟨hE, hB1_0, trivial⟩ rfl (fun w hw => R_move rfl) ?_
  refine H_take (i := 1) rfl (by kernel_rfl) (by kernel_rfl) (by kernel_rfl) rfl (pq_then (pq_block (pq_then (pq_then (pq_block (pq_then pq_body)))))) ⟨hE, hB1_0, trivial⟩ rfl (fun w hw => R_move rfl) ?_
  refine H_take (i := 2) rfl (by kernel_rfl) (by kernel_rfl) (by kernel_rfl) rfl (pq_then (pq_block (pq_then (pq_then (pq_block (pq_then pq_body)))))) ⟨hE, hB1_0, trivial⟩ rfl (fun w hw => R_indexAddrA Tryz.runUnderlying29 Tryz.sizeOf5 rfl rfl (by decide) (by decide)) ?_
  refine H_take (i := 3) rfl (by kernel_rfl) (by kernel_rfl) (by kernel_rfl) rfl (pq_then (pq_block (pq_then (pq_then (pq_block (pq_then pq_body)))))) ⟨hE, hB1_0, trivial⟩ rfl (fun w hw => R_load Tryz.isAgg5 hw.2.1 rfl rfl) ?_
  refine H_take (i := 4) rfl (by kernel_rfl) (by kernel_rfl) (by kernel_rfl) rfl (pq_then (pq_block (pq_then (pq_then (pq_block (pq_then pq_body)))))) ⟨hE, hB1_0, trivial⟩ rfl (fun w hw => R_shrB rfl rfl) ?_
  refine H_take (i := 5) rfl (by kernel_rfl) (by kernel_rfl) (by kernel_rfl) rfl (pq_then (pq_block (pq_then (pq_then (pq_block (pq_then pq_body)))))) ⟨hE, hB1_0, trivial⟩ rfl (fun w hw => R_convN (e := ((m).b0.toNat / 16)) Tryz.runUnderlying5 Tryz.runUnderlying3 rfl (by (try simp only [List.length_take, List.length_drop, List.length_append, List.length_cons, List.length_nil, List.length_replicate, List.length_set, Nm.b_len, be2_len]); omega)) ?_
  refine H_take (i := 6) rfl (by kernel_rfl) (by kernel_rfl) (by kernel_rfl) rfl (pq_then (pq_block (pq_then (pq_then (pq_block (pq_then pq_body)))))) ⟨hE, hB1_0, trivial⟩ rfl (fun w hw => R_move rfl) ?_
  refine H_take (i := 7) rfl (by kernel_rfl) (by kernel_rfl) (by kernel_rfl) rfl (pq_then (pq_block (pq_then (pq_then (pq_block (pq_then pq_body)))))) ⟨hE, hB1_0, trivial⟩ rfl (fun w hw => R_indexAddrA Tryz.runUnderlying29 Tryz.sizeOf5 rfl rfl (by decide) (by decide)) ?_
  refine H_take (i := 8) rfl (by kernel_rfl) (by kernel_rfl) (by kernel_rfl) rfl (pq_then (pq_block (pq_then (pq_then (pq_block (pq_then pq_body)))))) ⟨hE, hB1_0, trivial⟩ rfl (fun w hw => R_load Tryz.isAgg5 hw.2.1 rfl rfl) ?_
  refine H_take (i := 9) rfl (by kernel_rfl) (by kernel_rfl) (by kernel_rfl) rfl (pq_then (pq_block (pq_then (pq_then (pq_block (pq_then pq_body)))))) ⟨hE, hB1_0, trivial⟩ rfl (fun w hw => R_andB rfl rfl) ?_
  refine H_take (i := 10) rfl (by kernel_rfl) (by kernel_rfl) (by kernel_rfl) rfl (pq_then (pq_block (pq_then (pq_then (pq_block (pq_then pq_body)))))) ⟨hE, hB1_0, trivial⟩ rfl (fun w hw => R_convN (e := ((m).b0.toNat % 16)) Tryz.runUnderlying5 Tryz.runUnderlying3 rfl (by (try simp only [List.length_take, List.length_drop, List.length_append, List.length_cons, List.length_nil, List.length_replicate, List.length_set, Nm.b_len, be2_len]); omega)) ?_
  refine H_op (i := 11) (by kernel_rfl) rfl rfl (D_buildI2 (lo := w.heap.size) (a := ((m).b0.toNat / 16)) (b := ((m).b0.toNat % 16)) Tryz.underlying126 Tryz.sizeOf3 Tryz.zeroValue3 (mapp2 rfl rfl) (fun v6_11 w6_11 o6_11 e6_11 => ?_))
  replace o6_11 := o6_11.low hE.size
  replace hE := hE.trans e6_11
  replace hB1_0 := hB1_0.ext e6_11
  refine ⟨⟨hE, hB1_0, trivial⟩, ?_⟩
  have o6_12n := Ow.nil cI w.heap.size w.heap.size w6_11
  refine H_op (i := 12) (by kernel_rfl) rfl rfl (D_appendL elt3 Tryz.underlying126 rfl rfl o6_12n (Nat.le_refl _) o6_11.ls (by (try simp only [List.length_take, List.length_drop, List.length_append, List.length_cons, List.length_nil, List.length_replicate, List.length_set, Nm.b_len, be2_len]); omega) (by (try simp only [List.length_take, List.length_drop, List.length_append, List.length_cons, List.length_nil, List.length_replicate, List.length_set, Nm.b_len, be2_len]); omega) hE.size (fun v6_12 w6_12 o6_12 g6_12 f6_12 sv6_12 => ?_))
  have zv6_11_v6_12 : ∀ k, Value.ownBlock v6_11 = some k → Value.ownBlock v6_12 ≠ some k := fun k hk2 hk => (sv6_12 _ hk).elim (fun h => nomatch (show (none : Option Nat) = some _ from h)) (fun h => absurd h (Nat.not_le.2 (own_lt o6_11.1 hk2)))
  have zv6_12_v6_11 := fun k hk hk2 => zv6_11_v6_12 k hk2 hk
  replace hE := hE.grown g6_12 (fun k hk => own_ge o6_12n.1 hk)
  replace hB1_0 := hB1_0.grown g6_12 (own_neB o6_12n.1 hB1_0 rfl)
  refine ⟨⟨hE, hB1_0, trivial⟩, ?_⟩
  refine H_take (i := 13) rfl (by kernel_rfl) (by kernel_rfl) (by kernel_rfl) rfl (pq_then (pq_block (pq_then (pq_then (pq_block (pq_then pq_body)))))) ⟨hE, hB1_0, trivial⟩ rfl (fun w hw => R_assign rfl) ?_
  refine H_done (by kernel_rfl) ?_
  refine T_tn ?_
  refine W_draw mixed (by kernel_rfl) ?_
  refine Q_v (fun w hw => R_move rfl) ?_
  refine Q_v (fun w hw => R_move rfl) ?_
  refine Q_v (fun w hw => R_indexAddrA Tryz.runUnderlying29 Tryz.sizeOf5 rfl rfl (by decide) (by decide)) ?_
  refine Q_v (fun w hw => R_load Tryz.isAgg5 (hB1_0.ext hw) rfl rfl) ?_
  refine Q_v (fun w hw => R_shrB rfl rfl) ?_
  refine Q_v (fun w hw => R_convN (e := ((m).b0.toNat / 16)) Tryz.runUnderlying5 Tryz.runUnderlying3 rfl (by (try simp only [List.length_take, List.length_drop, List.length_append, List.length_cons, List.length_nil, List.length_replicate, List.length_set, Nm.b_len, be2_len]); omega)) ?_
  refine Q_v (fun w hw => R_subN (m := 240) (j := ((m).b0.toNat / 16)) rfl rfl (by (try simp only [List.length_take, List.length_drop, List.length_append, List.length_cons, List.length_nil, List.length_replicate, List.length_set, Nm.b_len, be2_len]); omega) (by (try simp only [List.length_take, List.length_drop, List.length_append, List.length_cons, List.length_nil, List.length_replicate, List.length_set, Nm.b_len, be2_len]); omega)) ?_
  refine Q_v (fun w hw => R_move rfl) ?_
  refine Q_v (fun w hw => R_indexAddrA Tryz.runUnderlying29 Tryz.sizeOf5 rfl rfl (by decide) (by decide)) ?_
  refine Q_v (fun w hw => R_load Tryz.isAgg5 (hB1_0.ext hw) rfl rfl) ?_
  refine Q_v (fun w hw => R_andB rfl rfl) ?_
  refine Q_v (fun w hw => R_convN (e := ((m).b0.toNat % 16)) Tryz.runUnderlying5 Tryz.runUnderlying3 rfl (by (try simp only [List.length_take, List.length_drop, List.length_append, List.length_cons, List.length_nil, List.length_replicate, List.length_set, Nm.b_len, be2_len]); omega)) ?_
  refine Q_v (fun w hw => R_subN (m := (240 - ((m).b0.toNat / 16))) (j := ((m).b0.toNat % 16)) rfl rfl (by (try simp only [List.length_take, List.length_drop, List.length_append, List.length_cons, List.length_nil, List.length_replicate, List.length_set, Nm.b_len, be2_len]); omega) (by (try simp only [List.length_take, List.length_drop, List.length_append, List.length_cons, List.length_nil, List.length_replicate, List.length_set, Nm.b_len, be2_len]); omega)) ?_
  refine Q_v (fun w hw => R_assign rfl) ?_
  refine Q_nil (fun w7_99 e7_99 => ?_)
  replace hE := hE.trans e7_99
  replace hB1_0 := hB1_0.ext e7_99
  replace o6_12 := o6_12.ext e7_99
  refine T_bn ?_
  refine T_tn ?_
  refine W_region ?_
  refine L (D_v (R_move rfl) ?_)
  refine L (D_v (R_cast (v' := .int .i64 (1)) (R_addI rfl rfl) rfl) ?_)
  refine L (D_v (R_assign rfl) ?_)
  refine S_nil ?_
  refine T_tn ?_
  refine W_round ?_
  refine wp_seq ?_
  refine wp_seq ?_
  refine W_region ?_
  refine L (D_v (R_move rfl) ?_)
  refine L (D_v (R_cast (v' := .bool true) (R_lssI rfl rfl) rfl) ?_)
  refine S_nil ?_
  refine T_tn ?_
  refine W_ift rfl ?_
  refine wp_skip ?_
  refine T_tn ?_
  refine wp_seq ?_
  refine wp_block ?_
  refine wp_seq ?_
  refine W_held (fun W => Ext w W ∧ Blk W aB1_0 (m).l 29 ∧ True) mixed (fun w10_99 e10_99 => ?_)
  replace hE := hE.trans e10_99
  replace hB1_0 := hB1_0.ext e10_99
  replace o6_12 := o6_12.ext e10_99
  refine H_take (i := 0) rfl (by kernel_rfl) (by kernel_rfl) (by kernel_rfl) rfl (pq_then (pq_block (pq_then (pq_then (pq_block (pq_then pq_body)))))) ⟨hE, hB1_0, trivial⟩ rfl (fun w hw => R_move rfl) ?_
  refine H_take (i := 1) rfl (by kernel_rfl) (by kernel_rfl) (by kernel_rfl) rfl (pq_then (pq_block (pq_then (pq_then (pq_block (pq_then pq_body)))))) ⟨hE, hB1_0, trivial⟩ rfl (fun w hw => R_move rfl) ?_
  refine H_take (i := 2) rfl (by kernel_rfl) (by kernel_rfl) (by kernel_rfl) rfl (pq_then (pq_block (pq_then (pq_then (pq_block (pq_then pq_body)))))) ⟨hE, hB1_0, trivial⟩ rfl (fun w hw => R_indexAddrA Tryz.runUnderlying29 Tryz.sizeOf5 rfl rfl (by decide) (by decide)) ?_
  refine H_take (i := 3) rfl (by kernel_rfl) (by kernel_rfl) (by kernel_rfl) rfl (pq_then (pq_block (pq_then (pq_then (pq_block (pq_then pq_body)))))) ⟨hE, hB1_0, trivial⟩ rfl (fun w hw => R_load Tryz.isAgg5 hw.2.1 rfl rfl) ?_
  refine H_take (i := 4) rfl (by kernel_rfl) (by kernel_rfl) (by kernel_rfl) rfl (pq_then (pq_block (pq_then (pq_then (pq_block (pq_then pq_body)))))) ⟨hE, hB1_0, trivial⟩ rfl (fun w hw => R_shrB rfl rfl) ?_
  refine H_take (i := 5) rfl (by kernel_rfl) (by kernel_rfl) (by kernel_rfl) rfl (pq_then (pq_block (pq_then (pq_then (pq_block (pq_then pq_body)))))) ⟨hE, hB1_0, trivial⟩ rfl (fun w hw => R_convN (e := ((m).b1.toNat / 16)) Tryz.runUnderlying5 Tryz.runUnderlying3 rfl (by (try simp only [List.length_take, List.length_drop, List.length_append, List.length_cons, List.length_nil, List.length_replicate, List.length_set, Nm.b_len, be2_len]); omega)) ?_
  refine H_take (i := 6) rfl (by kernel_rfl) (by kernel_rfl) (by kernel_rfl) rfl (pq_then (pq_block (pq_then (pq_then (pq_block (pq_then pq_body)))))) ⟨hE, hB1_0, trivial⟩ rfl (fun w hw => R_move rfl) ?_
  refine H_take (i := 7) rfl (by kernel_rfl) (by kernel_rfl) (by kernel_rfl) rfl (pq_then (pq_block (pq_then (pq_then (pq_block (pq_then pq_body)))))) ⟨hE, hB1_0, trivial⟩ rfl (fun w hw => R_indexAddrA Tryz.runUnderlying29 Tryz.sizeOf5 rfl rfl (by decide) (by decide)) ?_
  refine H_take (i := 8) rfl (by kernel_rfl) (by kernel_rfl) (by kernel_rfl) rfl (pq_then (pq_block (pq_then (pq_then (pq_block (pq_then pq_body)))))) ⟨hE, hB1_0, trivial⟩ rfl (fun w hw => R_load Tryz.isAgg5 hw.2.1 rfl rfl) ?_
  refine H_take (i := 9) rfl (by kernel_rfl) (by kernel_rfl) (by kernel_rfl) rfl (pq_then (pq_block (pq_then (pq_then (pq_block (pq_then pq_body)))))) ⟨hE, hB1_0, trivial⟩ rfl (fun w hw => R_andB rfl rfl) ?_
  refine H_take (i := 10) rfl (by kernel_rfl) (by kernel_rfl) (by kernel_rfl) rfl (pq_then (pq_block (pq_then (pq_then (pq_block (pq_then pq_body)))))) ⟨hE, hB1_0, trivial⟩ rfl (fun w hw => R_convN (e := ((m).b1.toNat % 16)) Tryz.runUnderlying5 Tryz.runUnderlying3 rfl (by (try simp only [List.length_take, List.length_drop, List.length_append, List.length_cons, List.length_nil, List.length_replicate, List.length_set, Nm.b_len, be2_len]); omega)) ?_
  refine H_op (i := 11) (by kernel_rfl) rfl rfl (D_buildI2 (lo := w.heap.size) (a := ((m).b1.toNat / 16)) (b := ((m).b1.toNat % 16)) Tryz.underlying126 Tryz.sizeOf3 Tryz.zeroValue3 (mapp2 rfl rfl) (fun v10_11 w10_11 o10_11 e10_11 => ?_))
  have zv6_12_v10_11 := own_apart o6_12.1 o10_11.1
  have zv10_11_v6_12 := fun k hk hk2 => zv6_12_v10_11 k hk2 hk
  replace o10_11 := o10_11.low hE.size
  replace hE := hE.trans e10_11
  replace hB1_0 := hB1_0.ext e10_11
  replace o6_12 := o6_12.ext e10_11
  refine ⟨⟨hE, hB1_0, trivial⟩, ?_⟩
  refine H_op (i := 12) (by kernel_rfl) rfl rfl (D_appendL elt3 Tryz.underlying126 rfl rfl o6_12 (Nat.le_refl _) o10_11.ls (by (try simp only [List.length_take, List.length_drop, List.length_append, List.length_cons, List.length_nil, List.length_replicate, List.length_set, Nm.b_len, be2_len]); omega) (by (try simp only [List.length_take, List.length_drop, List.length_append, List.length_cons, List.length_nil, List.length_replicate, List.length_set, Nm.b_len, be2_len]); omega) hE.size (fun v10_12 w10_12 o10_12 g10_12 f10_12 sv10_12 => ?_))
  have zv10_11_v10_12 : ∀ k, Value.ownBlock v10_11 = some k → Value.ownBlock v10_12 ≠ some k := fun k hk2 hk => (sv10_12 _ hk).elim (fun h => zv10_11_v6_12 k hk2 h) (fun h => absurd h (Nat.not_le.2 (own_lt o10_11.1 hk2)))
  have zv10_12_v10_11 := fun k hk hk2 => zv10_11_v10_12 k hk2 hk
  replace hE := hE.grown g10_12 (fun k hk => own_ge o6_12.1 hk)
  replace hB1_0 := hB1_0.grown g10_12 (own_neB o6_12.1 hB1_0 rfl)
  replace o10_11 := o10_11.grown g10_12 (zv10_11_v6_12) f10_12
  refine ⟨⟨hE, hB1_0, trivial⟩, ?_⟩
  refine H_take (i := 13) rfl (by kernel_rfl) (by kernel_rfl) (by kernel_rfl) rfl (pq_then (pq_block (pq_then (pq_then (pq_block (pq_then pq_body)))))) ⟨hE, hB1_0, trivial⟩ rfl (fun w hw => R_assign rfl) ?_
  refine H_done (by kernel_rfl) ?_
  refine T_tn ?_
  refine W_draw mixed (by kernel_rfl) ?_
  refine Q_v (fun w hw => R_move rfl) ?_
  refine Q_v (fun w hw => R_move rfl) ?_
  refine Q_v (fun w hw => R_indexAddrA Tryz.runUnderlying29 Tryz.sizeOf5 rfl rfl (by decide) (by decide)) ?_
  refine Q_v (fun w hw => R_load Tryz.isAgg5 (hB1_0.ext hw) rfl rfl) ?_
  refine Q_v (fun w hw => R_shrB rfl rfl) ?_
  refine Q_v (fun w hw => R_convN (e := ((m).b1.toNat / 16)) Tryz.runUnderlying5 Tryz.runUnderlying3 rfl (by (try simp only [List.length_take, List.length_drop, List.length_append, List.length_cons, List.length_nil, List.length_replicate, List.length_set, Nm.b_len, be2_len]); omega)) ?_
  refine Q_v (fun w hw => R_subN (m := ((240 - ((m).b0.toNat / 16)) - ((m).b0.toNat % 16))) (j := ((m).b1.toNat / 16)) rfl rfl (by (try simp only [List.length_take, List.length_drop, List.length_append, List.length_cons, List.length_nil, List.length_replicate, List.length_set, Nm.b_len, be2_len]); omega) (by (try simp only [List.length_take, List.length_drop, List.length_append, List.length_cons, List.length_nil, List.length_replicate, List.length_set, Nm.b_len, be2_len]); omega)) ?_
  refine Q_v (fun w hw => R_move rfl) ?_
  refine Q_v (fun w hw => R_indexAddrA Tryz.runUnderlying29 Tryz.sizeOf5 rfl rfl (by decide) (by decide)) ?_
  refine Q_v (fun w hw => R_load Tryz.isAgg5 (hB1_0.ext hw) rfl rfl) ?_
  refine Q_v (fun w hw => R_andB rfl rfl) ?_
  refine Q_v (fun w hw => R_convN (e := ((m).b1.toNat % 16)) Tryz.runUnderlying5 Tryz.runUnderlying3 rfl (by (try simp only [List.length_take, List.length_drop, List.length_append, List.length_cons, List.length_nil, List.length_replicate, List.length_set, Nm.b_len, be2_len]); omega)) ?_
  refine Q_v (fun w hw => R_subN (m := (((240 - ((m).b0.toNat / 16)) - ((m).b0.toNat % 16)) - ((m).b1.toNat / 16))) (j := ((m).b1.toNat % 16)) rfl rfl (by (try simp only [List.length_take, List.length_drop, List.length_append, List.length_cons, List.length_nil, List.length_replicate, List.length_set, Nm.b_len, be2_len]); omega) (by (try simp only [List.length_take, List.length_drop, List.length_append, List.length_cons, List.length_nil, List.length_replicate, List.length_set, Nm.b_len, be2_len]); omega)) ?_
  refine Q_v (fun w hw => R_assign rfl) ?_
  refine Q_nil (fun w11_99 e11_99 => ?_)
  replace hE := hE.trans e11_99
  replace hB1_0 := hB1_0.ext e11_99
  replace o10_12 := o10_12.ext e11_99
  refine T_bn ?_
  refine T_tn ?_
  refine W_region ?_
  refine L (D_v (R_move rfl) ?_)
  refine L (D_v (R_cast (v' := .int .i64 (2)) (R_addI rfl rfl) rfl) ?_)
  refine L (D_v (R_assign rfl) ?_)
  refine S_nil ?_
  refine T_tn ?_
  refine W_round ?_
  refine wp_seq ?_
  refine wp_seq ?_
  refine W_region ?_
  refine L (D_v (R_move rfl) ?_)
  refine L (D_v (R_cast (v' := .bool true) (R_lssI rfl rfl) rfl) ?_)
  refine S_nil ?_
  refine T_tn ?_
  refine W_ift rfl ?_
  refine wp_skip ?_
  refine T_tn ?_
  refine wp_seq ?_
  refine wp_block ?_
  refine wp_seq ?_
  refine W_held (fun W => Ext w W ∧ Blk W aB1_0 (m).l 29 ∧ True) mixed (fun w14_99 e14_99 => ?_)
  replace hE := hE.trans e14_99
  replace hB1_0 := hB1_0.ext e14_99
  replace o10_12 := o10_12.ext e14_99
  refine H_take (i := 0) rfl (by kernel_rfl) (by kernel_rfl) (by kernel_rfl) rfl (pq_then (pq_block (pq_then (pq_then (pq_block (pq_then pq_body)))))) ⟨hE, hB1_0, trivial⟩ rfl (fun w hw => R_move rfl) ?_
  refine H_take (i := 1) rfl (by kernel_rfl) (by kernel_rfl) (by kernel_rfl) rfl (pq_then (pq_block (pq_then (pq_then (pq_block (pq_then pq_body)))))) ⟨hE, hB1_0, trivial⟩ rfl (fun w hw => R_move rfl) ?_
  refine H_take (i := 2) rfl (by kernel_rfl) (by kernel_rfl) (by kernel_rfl) rfl (pq_then (pq_block (pq_then (pq_then (pq_block (pq_then pq_body)))))) ⟨hE, hB1_0, trivial⟩ rfl (fun w hw => R_indexAddrA Tryz.runUnderlying29 Tryz.sizeOf5 rfl rfl (by decide) (by decide)) ?_
  refine H_take (i := 3) rfl (by kernel_rfl) (by kernel_rfl) (by kernel_rfl) rfl (pq_then (pq_block (pq_then (pq_then (pq_block (pq_then pq_body)))))) ⟨hE, hB1_0, trivial⟩ rfl (fun w hw => R_load Tryz.isAgg5 hw.2.1 rfl rfl) ?_
  refine H_take (i := 4) rfl (by kernel_rfl) (by kernel_rfl) (by kernel_rfl) rfl (pq_then (pq_block (pq_then (pq_then (pq_block (pq_then pq_body)))))) ⟨hE, hB1_0, trivial⟩ rfl (fun w hw => R_shrB rfl rfl) ?_
  refine H_take (i := 5) rfl (by kernel_rfl) (by kernel_rfl) (by kernel_rfl) rfl (pq_then (pq_block (pq_then (pq_then (pq_block (pq_then pq_body)))))) ⟨hE, hB1_0, trivial⟩ rfl (fun w hw => R_convN (e := ((m).b2.toNat / 16)) Tryz.runUnderlying5 Tryz.runUnderlying3 rfl (by (try simp only [List.length_take, List.length_drop, List.length_append, List.length_cons, List.length_nil, List.length_replicate, List.length_set, Nm.b_len, be2_len]); omega)) ?_
  refine H_take (i := 6) rfl (by kernel_rfl) (by kernel_rfl) (by kernel_rfl) rfl (pq_then (pq_block (pq_then (pq_then (pq_block (pq_then pq_body)))))) ⟨hE, hB1_0, trivial⟩ rfl (fun w hw => R_move rfl) ?_
  refine H_take (i := 7) rfl (by kernel_rfl) (by kernel_rfl) (by kernel_rfl) rfl (pq_then (pq_block (pq_then (pq_then (pq_block (pq_then pq_body)))))) ⟨hE, hB1_0, trivial⟩ rfl (fun w hw => R_indexAddrA Tryz.runUnderlying29 Tryz.sizeOf5 rfl rfl (by decide) (by decide)) ?_
  refine H_take (i := 8) rfl (by kernel_rfl) (by kernel_rfl) (by kernel_rfl) rfl (pq_then (pq_block (pq_then (pq_then (pq_block (pq_then pq_body)))))) ⟨hE, hB1_0, trivial⟩ rfl (fun w hw => R_load Tryz.isAgg5 hw.2.1 rfl rfl) ?_
  refine H_take (i := 9) rfl (by kernel_rfl) (by kernel_rfl) (by kernel_rfl) rfl (pq_then (pq_block (pq_then (pq_then (pq_block (pq_then pq_body)))))) ⟨hE, hB1_0, trivial⟩ rfl (fun w hw => R_andB rfl rfl) ?_
  refine H_take (i := 10) rfl (by kernel_rfl) (by kernel_rfl) (by kernel_rfl) rfl (pq_then (pq_block (pq_then (pq_then (pq_block (pq_then pq_body)))))) ⟨hE, hB1_0, trivial⟩ rfl (fun w hw => R_convN (e := ((m).b2.toNat % 16)) Tryz.runUnderlying5 Tryz.runUnderlying3 rfl (by (try simp only [List.length_take, List.length_drop, List.length_append, List.length_cons, List.length_nil, List.length_replicate, List.length_set, Nm.b_len, be2_len]); omega)) ?_
  refine H_op (i := 11) (by kernel_rfl) rfl rfl (D_buildI2 (lo := w.heap.size) (a := ((m).b2.toNat / 16)) (b := ((m).b2.toNat % 16)) Tryz.underlying126 Tryz.sizeOf3 Tryz.zeroValue3 (mapp2 rfl rfl) (fun v14_11 w14_11 o14_11 e14_11 => ?_))
  have zv10_12_v14_11 := own_apart o10_12.1 o14_11.1
  have zv14_11_v10_12 := fun k hk hk2 => zv10_12_v14_11 k hk2 hk
  replace o14_11 := o14_11.low hE.size
  replace hE := hE.trans e14_11
  replace hB1_0 := hB1_0.ext e14_11
  replace o10_12 := o10_12.ext e14_11
  refine ⟨⟨hE, hB1_0, trivial⟩, ?_⟩
  refine H_op (i := 12) (by kernel_rfl) rfl rfl (D_appendL elt3 Tryz.underlying126 rfl rfl o10_12 (Nat.le_refl _) o14_11.ls (by (try simp only [List.length_take, List.length_drop, List.length_append, List.length_cons, List.length_nil, List.length_replicate, List.length_set, Nm.b_len, be2_len]); omega) (by (try simp only [List.length_take, List.length_drop, List.length_append, List.length_cons, List.length_nil, List.length_replicate, List.length_set, Nm.b_len, be2_len]); omega) hE.size (fun v14_12 w14_12 o14_12 g14_12 f14_12 sv14_12 => ?_))
  have zv14_11_v14_12 : ∀ k, Value.ownBlock v14_11 = some k → Value.ownBlock v14_12 ≠ some k := fun k hk2 hk => (sv14_12 _ hk).elim (fun h => zv14_11_v10_12 k hk2 h) (fun h => absurd h (Nat.not_le.2 (own_lt o14_11.1 hk2)))
  have zv14_12_v14_11 := fun k hk hk2 => zv14_11_v14_12 k hk2 hk
  replace hE := hE.grown g14_12 (fun k hk => own_ge o10_12.1 hk)
  replace hB1_0 := hB1_0.grown g14_12 (own_neB o10_12.1 hB1_0 rfl)
  replace o14_11 := o14_11.grown g14_12 (zv14_11_v10_12) f14_12
  refine ⟨⟨hE, hB1_0, trivial⟩, ?_⟩
  refine H_take (i := 13) rfl (by kernel_rfl) (by kernel_rfl) (by kernel_rfl) rfl (pq_then (pq_block (pq_then (pq_then (pq_block (pq_then pq_body)))))) ⟨hE, hB1_0, trivial⟩ rfl (fun w hw => R_assign rfl) ?_
  refine H_done (by kernel_rfl) ?_
  refine T_tn ?_
  refine W_draw mixed (by kernel_rfl) ?_
  refine Q_v (fun w hw => R_move rfl) ?_
  refine Q_v (fun w hw => R_move rfl) ?_
  refine Q_v (fun w hw => R_indexAddrA Tryz.runUnderlying29 Tryz.sizeOf5 rfl rfl (by decide) (by decide)) ?_
  refine Q_v (fun w hw => R_load Tryz.isAgg5 (hB1_0.ext hw) rfl rfl) ?_
  refine Q_v (fun w hw => R_shrB rfl rfl) ?_
  refine Q_v (fun w hw => R_convN (e := ((m).b2.toNat / 16)) Tryz.runUnderlying5 Tryz.runUnderlying3 rfl (by (try simp only [List.length_take, List.length_drop, List.length_append, List.length_cons, List.length_nil, List.length_replicate, List.length_set, Nm.b_len, be2_len]); omega)) ?_
  refine Q_v (fun w hw => R_subN (m := ((((240 - ((m).b0.toNat / 16)) - ((m).b0.toNat % 16)) - ((m).b1.toNat / 16)) - ((m).b1.toNat % 16))) (j := ((m).b2.toNat / 16)) rfl rfl (by (try simp only [List.length_take, List.length_drop, List.length_append, List.length_cons, List.length_nil, List.length_replicate, List.length_set, Nm.b_len, be2_len]); omega) (by (try simp only [List.length_take, List.length_drop, List.length_append, List.length_cons, List.length_nil, List.length_replicate, List.length_set, Nm.b_len, be2_len]); omega)) ?_
  refine Q_v (fun w hw => R_move rfl) ?_
  refine Q_v (fun w hw => R_indexAddrA Tryz.runUnderlying29 Tryz.sizeOf5 rfl rfl (by decide) (by decide)) ?_
  refine Q_v (fun w hw => R_load Tryz.isAgg5 (hB1_0.ext hw) rfl rfl) ?_
  refine Q_v (fun w hw => R_andB rfl rfl) ?_
  refine Q_v (fun w hw => R_convN (e := ((m).b2.toNat % 16)) Tryz.runUnderlying5 Tryz.runUnderlying3 rfl (by (try simp only [List.length_take, List.length_drop, List.length_append, List.length_cons, List.length_nil, List.length_replicate, List.length_set, Nm.b_len, be2_len]); omega)) ?_
  refine Q_v (fun w hw => R_subN (m := (((((240 - ((m).b0.toNat / 16)) - ((m).b0.toNat % 16)) - ((m).b1.toNat / 16)) - ((m).b1.toNat % 16)) - ((m).b2.toNat / 16))) (j := ((m).b2.toNat % 16)) rfl rfl (by (try simp only [List.length_take, List.length_drop, List.length_append, List.length_cons, List.length_nil, List.length_replicate, List.length_set, Nm.b_len, be2_len]); omega) (by (try simp only [List.length_take, List.length_drop, List.length_append, List.length_cons, List.length_nil, List.length_replicate, List.length_set, Nm.b_len, be2_len]); omega)) ?_
  refine Q_v (fun w hw => R_assign rfl) ?_
  refine Q_nil (fun w15_99 e15_99 => ?_)
  replace hE := hE.trans e15_99
  replace hB1_0 := hB1_0.ext e15_99
  replace o14_12 := o14_12.ext e15_99
  refine T_bn ?_
  refine T_tn ?_
  refine W_region ?_
  refine L (D_v (R_move rfl) ?_)
  refine L (D_v (R_cast (v' := .int .i64 (3)) (R_addI rfl rfl) rfl) ?_)
  refine L (D_v (R_assign rfl) ?_)
  refine S_nil ?_
  refine T_tn ?_
  refine W_round ?_
  refine wp_seq ?_
  refine wp_seq ?_
  refine W_region ?_
  refine L (D_v (R_move rfl) ?_)
  refine L (D_v (R_cast (v' := .bool true) (R_lssI rfl rfl) rfl) ?_)
  refine S_nil ?_
  refine T_tn ?_
  refine W_ift rfl ?_
  refine wp_skip ?_
  refine T_tn ?_
  refine wp_seq ?_
  refine wp_block ?_
  refine wp_seq ?_
  refine W_held (fun W => Ext w W ∧ Blk W aB1_0 (m).l 29 ∧ True) mixed (fun w18_99 e18_99 => ?_)
  replace hE := hE.trans e18_99
  replace hB1_0 := hB1_0.ext e18_99
  replace o14_12 := o14_12.ext e18_99
  refine H_take (i := 0) rfl (by kernel_rfl) (by kernel_rfl) (by kernel_rfl) rfl (pq_then (pq_block (pq_then (pq_then (pq_block (pq_then pq_body)))))) ⟨hE, hB1_0, trivial⟩ rfl (fun w hw => R_move rfl) ?_
  refine H_take (i := 1) rfl (by kernel_rfl) (by kernel_rfl) (by kernel_rfl) rfl (pq_then (pq_block (pq_then (pq_then (pq_block (pq_then pq_body)))))) ⟨hE, hB1_0, trivial⟩ rfl (fun w hw => R_move rfl) ?_
  refine H_take (i := 2) rfl (by kernel_rfl) (by kernel_rfl) (by kernel_rfl) rfl (pq_then (pq_block (pq_then (pq_then (pq_block (pq_then pq_body)))))) ⟨hE, hB1_0, trivial⟩ rfl (fun w hw => R_indexAddrA Tryz.runUnderlying29 Tryz.sizeOf5 rfl rfl (by decide) (by decide)) ?_
  refine H_take (i := 3) rfl (by kernel_rfl) (by kernel_rfl) (by kernel_rfl) rfl (pq_then (pq_block (pq_then (pq_then (pq_block (pq_then pq_body)))))) ⟨hE, hB1_0, trivial⟩ rfl (fun w hw => R_load Tryz.isAgg5 hw.2.1 rfl rfl) ?_
  refine H_take (i := 4) rfl (by kernel_rfl) (by kernel_rfl) (by kernel_rfl) rfl (pq_then (pq_block (pq_then (pq_then (pq_block (pq_then pq_body)))))) ⟨hE, hB1_0, trivial⟩ rfl (fun w hw => R_shrB rfl rfl) ?_
  refine H_take (i := 5) rfl (by kernel_rfl) (by kernel_rfl) (by kernel_rfl) rfl (pq_then (pq_block (pq_then (pq_then (pq_block (pq_then pq_body)))))) ⟨hE, hB1_0, trivial⟩ rfl (fun w hw => R_convN (e := ((m).b3.toNat / 16)) Tryz.runUnderlying5 Tryz.runUnderlying3 rfl (by (try simp only [List.length_take, List.length_drop, List.length_append, List.length_cons, List.length_nil, List.length_replicate, List.length_set, Nm.b_len, be2_len]); omega)) ?_
  refine H_take (i := 6) rfl (by kernel_rfl) (by kernel_rfl) (by kernel_rfl) rfl (pq_then (pq_block (pq_then (pq_then (pq_block (pq_then pq_body)))))) ⟨hE, hB1_0, trivial⟩ rfl (fun w hw => R_move rfl) ?_
  refine H_take (i := 7) rfl (by kernel_rfl) (by kernel_rfl) (by kernel_rfl) rfl (pq_then (pq_block (pq_then (pq_then (pq_block (pq_then pq_body)))))) ⟨hE, hB1_0, trivial⟩ rfl (fun w hw => R_indexAddrA Tryz.runUnderlying29 Tryz.sizeOf5 rfl rfl (by decide) (by decide)) ?_
  refine H_take (i := 8) rfl (by kernel_rfl) (by kernel_rfl) (by kernel_rfl) rfl (pq_then (pq_block (pq_then (pq_then (pq_block (pq_then pq_body)))))) ⟨hE, hB1_0, trivial⟩ rfl (fun w hw => R_load Tryz.isAgg5 hw.2.1 rfl rfl) ?_
  refine H_take (i := 9) rfl (by kernel_rfl) (by kernel_rfl) (by kernel_rfl) rfl (pq_then (pq_block (pq_then (pq_then (pq_block (pq_then pq_body)))))) ⟨hE, hB1_0, trivial⟩ rfl (fun w hw => R_andB rfl rfl) ?_
  refine H_take (i := 10) rfl (by kernel_rfl) (by kernel_rfl) (by kernel_rfl) rfl (pq_then (pq_block (pq_then (pq_then (pq_block (pq_then pq_body)))))) ⟨hE, hB1_0, trivial⟩ rfl (fun w hw => R_convN (e := ((m).b3.toNat % 16)) Tryz.runUnderlying5 Tryz.runUnderlying3 rfl (by (try simp only [List.length_take, List.length_drop, List.length_append, List.length_cons, List.length_nil, List.length_replicate, List.length_set, Nm.b_len, be2_len]); omega)) ?_
  refine H_op (i := 11) (by kernel_rfl) rfl rfl (D_buildI2 (lo := w.heap.size) (a := ((m).b3.toNat / 16)) (b := ((m).b3.toNat % 16)) Tryz.underlying126 Tryz.sizeOf3 Tryz.zeroValue3 (mapp2 rfl rfl) (fun v18_11 w18_11 o18_11 e18_11 => ?_))
  have zv14_12_v18_11 := own_apart o14_12.1 o18_11.1
  have zv18_11_v14_12 := fun k hk hk2 => zv14_12_v18_11 k hk2 hk
  replace o18_11 := o18_11.low hE.size
  replace hE := hE.trans e18_11
  replace hB1_0 := hB1_0.ext e18_11
  replace o14_12 := o14_12.ext e18_11
  refine ⟨⟨hE, hB1_0, trivial⟩, ?_⟩
  refine H_op (i := 12) (by kernel_rfl) rfl rfl (D_appendL elt3 Tryz.underlying126 rfl rfl o14_12 (Nat.le_refl _) o18_11.ls (by (try simp only [List.length_take, List.length_drop, List.length_append, List.length_cons, List.length_nil, List.length_replicate, List.length_set, Nm.b_len, be2_len]); omega) (by (try simp only [List.length_take, List.length_drop, List.length_append, List.length_cons, List.length_nil, List.length_replicate, List.length_set, Nm.b_len, be2_len]); omega) hE.size (fun v18_12 w18_12 o18_12 g18_12 f18_12 sv18_12 => ?_))
  have zv18_11_v18_12 : ∀ k, Value.ownBlock v18_11 = some k → Value.ownBlock v18_12 ≠ some k := fun k hk2 hk => (sv18_12 _ hk).elim (fun h => zv18_11_v14_12 k hk2 h) (fun h => absurd h (Nat.not_le.2 (own_lt o18_11.1 hk2)))
  have zv18_12_v18_11 := fun k hk hk2 => zv18_11_v18_12 k hk2 hk
  replace hE := hE.grown g18_12 (fun k hk => own_ge o14_12.1 hk)
  replace hB1_0 := hB1_0.grown g18_12 (own_neB o14_12.1 hB1_0 rfl)
  replace o18_11 := o18_11.grown g18_12 (zv18_11_v14_12) f18_12
  refine ⟨⟨hE, hB1_0, trivial⟩, ?_⟩
  refine H_take (i := 13) rfl (by kernel_rfl) (by kernel_rfl) (by kernel_rfl) rfl (pq_then (pq_block (pq_then (pq_then (pq_block (pq_then pq_body)))))) ⟨hE, hB1_0, trivial⟩ rfl (fun w hw => R_assign rfl) ?_
  refine H_done (by kernel_rfl) ?_
  refine T_tn ?_
  refine W_draw mixed (by kernel_rfl) ?_
  refine Q_v (fun w hw => R_move rfl) ?_
  refine Q_v (fun w hw => R_move rfl) ?_
  refine Q_v (fun w hw => R_indexAddrA Tryz.runUnderlying29 Tryz.sizeOf5 rfl rfl (by decide) (by decide)) ?_
  refine Q_v (fun w hw => R_load Tryz.isAgg5 (hB1_0.ext hw) rfl rfl) ?_
  refine Q_v (fun w hw => R_shrB rfl rfl) ?_
  refine Q_v (fun w hw => R_convN (e := ((m).b3.toNat / 16)) Tryz.runUnderlying5 Tryz.runUnderlying3 rfl (by (try simp only [List.length_take, List.length_drop, List.length_append, List.length_cons, List.length_nil, List.length_replicate, List.length_set, Nm.b_len, be2_len]); omega)) ?_
  refine Q_v (fun w hw => R_subN (m := ((((((240 - ((m).b0.toNat / 16)) - ((m).b0.toNat % 16)) - ((m).b1.toNat / 16)) - ((m).b1.toNat % 16)) - ((m).b2.toNat / 16)) - ((m).b2.toNat % 16))) (j := ((m).b3.toNat / 16)) rfl rfl (by (try simp only [List.length_take, List.length_drop, List.length_append, List.length_cons, List.length_nil, List.length_replicate, List.length_set, Nm.b_len, be2_len]); omega) (by (try simp only [List.length_take, List.length_drop, List.length_append, List.length_cons, List.length_nil, List.length_replicate, List.length_set, Nm.b_len, be2_len]); omega)) ?_
  refine Q_v (fun w hw => R_move rfl) ?_
  refine Q_v (fun w hw => R_indexAddrA Tryz.runUnderlying29 Tryz.sizeOf5 rfl rfl (by decide) (by decide)) ?_
  refine Q_v (fun w hw => R_load Tryz.isAgg5 (hB1_0.ext hw) rfl rfl) ?_
  refine Q_v (fun w hw => R_andB rfl rfl) ?_
  refine Q_v (fun w hw => R_convN (e := ((m).b3.toNat % 16)) Tryz.runUnderlying5 Tryz.runUnderlying3 rfl (by (try simp only [List.length_take, List.length_drop, List.length_append, List.length_cons, List.length_nil, List.length_replicate, List.length_set, Nm.b_len, be2_len]); omega)) ?_
  refine Q_v (fun w hw => R_subN (m := (((((((240 - ((m).b0.toNat / 16)) - ((m).b0.toNat % 16)) - ((m).b1.toNat / 16)) - ((m).b1.toNat % 16)) - ((m).b2.toNat / 16)) - ((m).b2.toNat % 16)) - ((m).b3.toNat / 16))) (j := ((m).b3.toNat % 16)) rfl rfl (by (try simp only [List.length_take, List.length_drop, List.length_append, List.length_cons, List.length_nil, List.length_replicate, List.length_set, Nm.b_len, be2_len]); omega) (by (try simp only [List.length_take, List.length_drop, List.length_append, List.length_cons, List.length_nil, List.length_replicate, List.length_set, Nm.b_len, be2_len]); omega)) ?_
  refine Q_v (fun w hw => R_assign rfl) ?_
  refine Q_nil (fun w19_99 e19_99 => ?_)
  replace hE := hE.trans e19_99
  replace hB1_0 := hB1_0.ext e19_99
  replace o18_12 := o18_12.ext e19_99
  refine T_bn ?_
  refine T_tn ?_
  refine W_region ?_
  refine L (D_v (R_move rfl) ?_)
  refine L (D_v (R_cast (v' := .int .i64 (4)) (R_addI rfl rfl) rfl) ?_)
  refine L (D_v (R_assign rfl) ?_)
  refine S_nil ?_
  refine T_tn ?_
  refine W_round ?_
  refine wp_seq ?_
  refine wp_seq ?_
  refine W_region ?_
  refine L (D_v (R_move rfl) ?_)
  refine L (D_v (R_cast (v' := .bool true) (R_lssI rfl rfl) rfl) ?_)
  refine S_nil ?_
  refine T_tn ?_
  refine W_ift rfl ?_
  refine wp_skip ?_
  refine T_tn ?_
  refine wp_seq ?_
  refine wp_block ?_
  refine wp_seq ?_
  refine W_held (fun W => Ext w W ∧ Blk W aB1_0 (m).l 29 ∧ True) mixed (fun w22_99 e22_99 => ?_)
  replace hE := hE.trans e22_99
  replace hB1_0 := hB1_0.ext e22_99
  replace o18_12 := o18_12.ext e22_99
  refine H_take (i := 0) rfl (by kernel_rfl) (by kernel_rfl) (by kernel_rfl) rfl (pq_then (pq_block (pq_then (pq_then (pq_block (pq_then pq_body)))))) ⟨hE, hB1_0, trivial⟩ rfl (fun w hw => R_move rfl) ?_
  refine H_take (i := 1) rfl (by kernel_rfl) (by kernel_rfl) (by kernel_rfl) rfl (pq_then (pq_block (pq_then (pq_then (pq_block (pq_then pq_body)))))) ⟨hE, hB1_0, trivial⟩ rfl (fun w hw => R_move rfl) ?_
  refine H_take (i := 2) rfl (by kernel_rfl) (by kernel_rfl) (by kernel_rfl) rfl (pq_then (pq_block (pq_then (pq_then (pq_block (pq_then pq_body)))))) ⟨hE, hB1_0, trivial⟩ rfl (fun w hw => R_indexAddrA Tryz.runUnderlying29 Tryz.sizeOf5 rfl rfl (by decide) (by decide)) ?_
  refine H_take (i := 3) rfl (by kernel_rfl) (by kernel_rfl) (by kernel_rfl) rfl (pq_then (pq_block (pq_then (pq_then (pq_block (pq_then pq_body)))))) ⟨hE, hB1_0, trivial⟩ rfl (fun w hw => R_load Tryz.isAgg5 hw.2.1 rfl rfl) ?_
  refine H_take (i := 4) rfl (by kernel_rfl) (by kernel_rfl) (by kernel_rfl) rfl (pq_then (pq_block (pq_then (pq_then (pq_block (pq_then pq_body)))))) ⟨hE, hB1_0, trivial⟩ rfl (fun w hw => R_shrB rfl rfl) ?_
  refine H_take (i := 5) rfl (by kernel_rfl) (by kernel_rfl) (by kernel_rfl) rfl (pq_then (pq_block (pq_then (pq_then (pq_block (pq_then pq_body)))))) ⟨hE, hB1_0, trivial⟩ rfl (fun w hw => R_convN (e := ((m).b4.toNat / 16)) Tryz.runUnderlying5 Tryz.runUnderlying3 rfl (by (try simp only [List.length_take, List.length_drop, List.length_append, List.length_cons, List.length_nil, List.length_replicate, List.length_set, Nm.b_len, be2_len]); omega)) ?_
  refine H_take (i := 6) rfl (by kernel_rfl) (by kernel_rfl) (by kernel_rfl) rfl (pq_then (pq_block (pq_then (pq_then (pq_block (pq_then pq_body)))))) ⟨hE, hB1_0, trivial⟩ rfl (fun w hw => R_move rfl) ?_
  refine H_take (i := 7) rfl (by kernel_rfl) (by kernel_rfl) (by kernel_rfl) rfl (pq_then (pq_block (pq_then (pq_then (pq_block (pq_then pq_body)))))) ⟨hE, hB1_0, trivial⟩ rfl (fun w hw => R_indexAddrA Tryz.runUnderlying29 Tryz.sizeOf5 rfl rfl (by decide) (by decide)) ?_
  refine H_take (i := 8) rfl (by kernel_rfl) (by kernel_rfl) (by kernel_rfl) rfl (pq_then (pq_block (pq_then (pq_then (pq_block (pq_then pq_body)))))) ⟨hE, hB1_0, trivial⟩ rfl (fun w hw => R_load Tryz.isAgg5 hw.2.1 rfl rfl) ?_
  refine H_take (i := 9) rfl (by kernel_rfl) (by kernel_rfl) (by kernel_rfl) rfl (pq_then (pq_block (pq_then (pq_then (pq_block (pq_then pq_body)))))) ⟨hE, hB1_0, trivial⟩ rfl (fun w hw => R_andB rfl rfl) ?_
  refine H_take (i := 10) rfl (by kernel_rfl) (by kernel_rfl) (by kernel_rfl) rfl (pq_then (pq_block (pq_then (pq_then (pq_block (pq_then pq_body)))))) ⟨hE, hB1_0, trivial⟩ rfl (fun w hw => R_convN (e := ((m).b4.toNat % 16)) Tryz.runUnderlying5 Tryz.runUnderlying3 rfl (by (try simp only [List.length_take, List.length_drop, List.length_append, List.length_cons, List.length_nil, List.length_replicate, List.length_set, Nm.b_len, be2_len]); omega)) ?_
  refine H_op (i := 11) (by kernel_rfl) rfl rfl (D_buildI2 (lo := w.heap.size) (a := ((m).b4.toNat / 16)) (b := ((m).b4.toNat % 16)) Tryz.underlying126 Tryz.sizeOf3 Tryz.zeroValue3 (mapp2 rfl rfl) (fun v22_11 w22_11 o22_11 e22_11 => ?_))
  have zv18_12_v22_11 := own_apart o18_12.1 o22_11.1
  have zv22_11_v18_12 := fun k hk hk2 => zv18_12_v22_11 k hk2 hk
  replace o22_11 := o22_11.low hE.size
  replace hE := hE.trans e22_11
  replace hB1_0 := hB1_0.ext e22_11
  replace o18_12 := o18_12.ext e22_11
  refine ⟨⟨hE, hB1_0, trivial⟩, ?_⟩
  refine H_op (i := 12) (by kernel_rfl) rfl rfl (D_appendL elt3 Tryz.underlying126 rfl rfl o18_12 (Nat.le_refl _) o22_11.ls (by (try simp only [List.length_take, List.length_drop, List.length_append, List.length_cons, List.length_nil, List.length_replicate, List.length_set, Nm.b_len, be2_len]); omega) (by (try simp only [List.length_take, List.length_drop, List.length_append, List.length_cons, List.length_nil, List.length_replicate, List.length_set, Nm.b_len, be2_len]); omega) hE.size (fun v22_12 w22_12 o22_12 g22_12 f22_12 sv22_12 => ?_))
  have zv22_11_v22_12 : ∀ k, Value.ownBlock v22_11 = some k → Value.ownBlock v22_12 ≠ some k := fun k hk2 hk => (sv22_12 _ hk).elim (fun h => zv22_11_v18_12 k hk2 h) (fun h => absurd h (Nat.not_le.2 (own_lt o22_11.1 hk2)))
  have zv22_12_v22_11 := fun k hk hk2 => zv22_11_v22_12 k hk2 hk
  replace hE := hE.grown g22_12 (fun k hk => own_ge o18_12.1 hk)
  replace hB1_0 := hB1_0.grown g22_12 (own_neB o18_12.1 hB1_0 rfl)
  replace o22_11 := o22_11.grown g22_12 (zv22_11_v18_12) f22_12
  refine ⟨⟨hE, hB1_0, trivial⟩, ?_⟩
  refine H_take (i := 13) rfl (by kernel_rfl) (by kernel_rfl) (by kernel_rfl) rfl (pq_then (pq_block (pq_then (pq_then (pq_block (pq_then pq_body)))))) ⟨hE, hB1_0, trivial⟩ rfl (fun w hw => R_assign rfl) ?_
  refine H_done (by kernel_rfl) ?_
  refine T_tn ?_
  refine W_draw mixed (by kernel_rfl) ?_
  refine Q_v (fun w hw => R_move rfl) ?_
  refine Q_v (fun w hw => R_move rfl) ?_
  refine Q_v (fun w hw => R_indexAddrA Tryz.runUnderlying29 Tryz.sizeOf5 rfl rfl (by decide) (by decide)) ?_
  refine Q_v (fun w hw => R_load Tryz.isAgg5 (hB1_0.ext hw) rfl rfl) ?_
  refine Q_v (fun w hw => R_shrB rfl rfl) ?_
  refine Q_v (fun w hw => R_convN (e := ((m).b4.toNat / 16)) Tryz.runUnderlying5 Tryz.runUnderlying3 rfl (by (try simp only [List.length_take, List.length_drop, List.length_append, List.length_cons, List.length_nil, List.length_replicate, List.length_set, Nm.b_len, be2_len]); omega)) ?_
  refine Q_v (fun w hw => R_subN (m := ((((((((240 - ((m).b0.toNat / 16)) - ((m).b0.toNat % 16)) - ((m).b1.toNat / 16)) - ((m).b1.toNat % 16)) - ((m).b2.toNat / 16)) - ((m).b2.toNat % 16)) - ((m).b3.toNat / 16)) - ((m).b3.toNat % 16))) (j := ((m).b4.toNat / 16)) rfl rfl (by (try simp only [List.length_take, List.length_drop, List.length_append, List.length_cons, List.length_nil, List.length_replicate, List.length_set, Nm.b_len, be2_len]); omega) (by (try simp only [List.length_take, List.length_drop, List.length_append, List.length_cons, List.length_nil, List.length_replicate, List.length_set, Nm.b_len, be2_len]); omega)) ?_
  refine Q_v (fun w hw => R_move rfl) ?_
  refine Q_v (fun w hw => R_indexAddrA Tryz.runUnderlying29 Tryz.sizeOf5 rfl rfl (by decide) (by decide)) ?_
  refine Q_v (fun w hw => R_load Tryz.isAgg5 (hB1_0.ext hw) rfl rfl) ?_
  refine Q_v (fun w hw => R_andB rfl rfl) ?_
  refine Q_v (fun w hw => R_convN (e := ((m).b4.toNat % 16)) Tryz.runUnderlying5 Tryz.runUnderlying3 rfl (by (try simp only [List.length_take, List.length_drop, List.length_append, List.length_cons, List.length_nil, List.length_replicate, List.length_set, Nm.b_len, be2_len]); omega)) ?_
  refine Q_v (fun w hw => R_subN (m := (((((((((240 - ((m).b0.toNat / 16)) - ((m).b0.toNat % 16)) - ((m).b1.toNat / 16)) - ((m).b1.toNat % 16)) - ((m).b2.toNat / 16)) - ((m).b2.toNat % 16)) - ((m).b3.toNat / 16)) - ((m).b3.toNat % 16)) - ((m).b4.toNat / 16))) (j := ((m).b4.toNat % 16)) rfl rfl (by (try simp only [List.length_take, List.length_drop, List.length_append, List.length_cons, List.length_nil, List.length_replicate, List.length_set, Nm.b_len, be2_len]); omega) (by (try simp only [List.length_take, List.length_drop, List.length_append, List.length_cons, List.length_nil, List.length_replicate, List.length_set, Nm.b_len, be2_len]); omega)) ?_
  refine Q_v (fun w hw => R_assign rfl) ?_
  refine Q_nil (fun w23_99 e23_99 => ?_)
  replace hE := hE.trans e23_99
  replace hB1_0 := hB1_0.ext e23_99
  replace o22_12 := o22_12.ext e23_99
  refine T_bn ?_
  refine T_tn ?_
  refine W_region ?_
  refine L (D_v (R_move rfl) ?_)
  refine L (D_v (R_cast (v' := .int .i64 (5)) (R_addI rfl rfl) rfl) ?_)
  refine L (D_v (R_assign rfl) ?_)
  refine S_nil ?_
  refine T_tn ?_
  refine W_round ?_
  refine wp_seq ?_
  refine wp_seq ?_
  refine W_region ?_
  refine L (D_v (R_move rfl) ?_)
  refine L (D_v (R_cast (v' := .bool true) (R_lssI rfl rfl) rfl) ?_)
  refine S_nil ?_
  refine T_tn ?_
  refine W_ift rfl ?_
  refine wp_skip ?_
  refine T_tn ?_
  refine wp_seq ?_
  refine wp_block ?_
  refine wp_seq ?_
  refine W_held (fun W => Ext w W ∧ Blk W aB1_0 (m).l 29 ∧ True) mixed (fun w26_99 e26_99 => ?_)
  replace hE := hE.trans e26_99
  replace hB1_0 := hB1_0.ext e26_99
  replace o22_12 := o22_12.ext e26_99
  refine H_take (i := 0) rfl (by kernel_rfl) (by kernel_rfl) (by kernel_rfl) rfl (pq_then (pq_block (pq_then (pq_then (pq_block (pq_then pq_body)))))) ⟨hE, hB1_0, trivial⟩ rfl (fun w hw => R_move rfl) ?_
  refine H_take (i := 1) rfl (by kernel_rfl) (by kernel_rfl) (by kernel_rfl) rfl (pq_then (pq_block (pq_then (pq_then (pq_block (pq_then pq_body)))))) ⟨hE, hB1_0, trivial⟩ rfl (fun w hw => R_move rfl) ?_
  refine H_take (i := 2) rfl (by kernel_rfl) (by kernel_rfl) (by kernel_rfl) rfl (pq_then (pq_block (pq_then (pq_then (pq_block (pq_then pq_body)))))) ⟨hE, hB1_0, trivial⟩ rfl (fun w hw => R_indexAddrA Tryz.runUnderlying29 Tryz.sizeOf5 rfl rfl (by decide) (by decide)) ?_
  refine H_take (i := 3) rfl (by kernel_rfl) (by kernel_rfl) (by kernel_rfl) rfl (pq_then (pq_block (pq_then (pq_then (pq_block (pq_then pq_body)))))) ⟨hE, hB1_0, trivial⟩ rfl (fun w hw => R_load Tryz.isAgg5 hw.2.1 rfl rfl) ?_
  refine H_take (i := 4) rfl (by kernel_rfl) (by kernel_rfl) (by kernel_rfl) rfl (pq_then (pq_block (pq_then (pq_then (pq_block (pq_then pq_body)))))) ⟨hE, hB1_0, trivial⟩ rfl (fun w hw => R_shrB rfl rfl) ?_
  refine H_take (i := 5) rfl (by kernel_rfl) (by kernel_rfl) (by kernel_rfl) rfl (pq_then (pq_block (pq_then (pq_then (pq_block (pq_then pq_body)))))) ⟨hE, hB1_0, trivial⟩ rfl (fun w hw => R_convN (e := ((m).b5.toNat / 16)) Tryz.runUnderlying5 Tryz.runUnderlying3 rfl (by (try simp only [List.length_take, List.length_drop, List.length_append, List.length_cons, List.length_nil, List.length_replicate, List.length_set, Nm.b_len, be2_len]); omega)) ?_
  refine H_take (i := 6) rfl (by kernel_rfl) (by kernel_rfl) (by kernel_rfl) rfl (pq_then (pq_block (pq_then (pq_then (pq_block (pq_then pq_body)))))) ⟨hE, hB1_0, trivial⟩ rfl (fun w hw => R_move rfl) ?_
  refine H_take (i := 7) rfl (by kernel_rfl) (by kernel_rfl) (by kernel_rfl) rfl (pq_then (pq_block (pq_then (pq_then (pq_block (pq_then pq_body)))))) ⟨hE, hB1_0, trivial⟩ rfl (fun w hw => R_indexAddrA Tryz.runUnderlying29 Tryz.sizeOf5 rfl rfl (by decide) (by decide)) ?_
  refine H_take (i := 8) rfl (by kernel_rfl) (by kernel_rfl) (by kernel_rfl) rfl (pq_then (pq_block (pq_then (pq_then (pq_block (pq_then pq_body)))))) ⟨hE, hB1_0, trivial⟩ rfl (fun w hw => R_load Tryz.isAgg5 hw.2.1 rfl rfl) ?_
  refine H_take (i := 9) rfl (by kernel_rfl) (by kernel_rfl) (by kernel_rfl) rfl (pq_then (pq_block (pq_then (pq_then (pq_block (pq_then pq_body)))))) ⟨hE, hB1_0, trivial⟩ rfl (fun w hw => R_andB rfl rfl) ?_
  refine H_take (i := 10) rfl (by kernel_rfl) (by kernel_rfl) (by kernel_rfl) rfl (pq_then (pq_block (pq_then (pq_then (pq_block (pq_then pq_body)))))) ⟨hE, hB1_0, trivial⟩ rfl (fun w hw => R_convN (e := ((m).b5.toNat % 16)) Tryz.runUnderlying5 Tryz.runUnderlying3 rfl (by (try simp only [List.length_take, List.length_drop, List.length_append, List.length_cons, List.length_nil, List.length_replicate, List.length_set, Nm.b_len, be2_len]); omega)) ?_
  refine H_op (i := 11) (by kernel_rfl) rfl rfl (D_buildI2 (lo := w.heap.size) (a := ((m).b5.toNat / 16)) (b := ((m).b5.toNat % 16)) Tryz.underlying126 Tryz.sizeOf3 Tryz.zeroValue3 (mapp2 rfl rfl) (fun v26_11 w26_11 o26_11 e26_11 => ?_))
  have zv22_12_v26_11 := own_apart o22_12.1 o26_11.1
  have zv26_11_v22_12 := fun k hk hk2 => zv22_12_v26_11 k hk2 hk
  replace o26_11 := o26_11.low hE.size
  replace hE := hE.trans e26_11
  replace hB1_0 := hB1_0.ext e26_11
  replace o22_12 := o22_12.ext e26_11
  refine ⟨⟨hE, hB1_0, trivial⟩, ?_⟩
  refine H_op (i := 12) (by kernel_rfl) rfl rfl (D_appendL elt3 Tryz.underlying126 rfl rfl o22_12 (Nat.le_refl _) o26_11.ls (by (try simp only [List.length_take, List.length_drop, List.length_append, List.length_cons, List.length_nil, List.length_replicate, List.length_set, Nm.b_len, be2_len]); omega) (by (try simp only [List.length_take, List.length_drop, List.length_append, List.length_cons, List.length_nil, List.length_replicate, List.length_set, Nm.b_len, be2_len]); omega) hE.size (fun v26_12 w26_12 o26_12 g26_12 f26_12 sv26_12 => ?_))
  have zv26_11_v26_12 : ∀ k, Value.ownBlock v26_11 = some k → Value.ownBlock v26_12 ≠ some k := fun k hk2 hk => (sv26_12 _ hk).elim (fun h => zv26_11_v22_12 k hk2 h) (fun h => absurd h (Nat.not_le.2 (own_lt o26_11.1 hk2)))
  have zv26_12_v26_11 := fun k hk hk2 => zv26_11_v26_12 k hk2 hk
  replace hE := hE.grown g26_12 (fun k hk => own_ge o22_12.1 hk)
  replace hB1_0 := hB1_0.grown g26_12 (own_neB o22_12.1 hB1_0 rfl)
  replace o26_11 := o26_11.grown g26_12 (zv26_11_v22_12) f26_12
  refine ⟨⟨hE, hB1_0, trivial⟩, ?_⟩
  refine H_take (i := 13) rfl (by kernel_rfl) (by kernel_rfl) (by kernel_rfl) rfl (pq_then (pq_block (pq_then (pq_then (pq_block (pq_then pq_body)))))) ⟨hE, hB1_0, trivial⟩ rfl (fun w hw => R_assign rfl) ?_
  refine H_done (by kernel_rfl) ?_
  refine T_tn ?_
  refine W_draw mixed (by kernel_rfl) ?_
  refine Q_v (fun w hw => R_move rfl) ?_
  refine Q_v (fun w hw => R_move rfl) ?_
  refine Q_v (fun w hw => R_indexAddrA Tryz.runUnderlying29 Tryz.sizeOf5 rfl rfl (by decide) (by decide)) ?_
  refine Q_v (fun w hw => R_load Tryz.isAgg5 (hB1_0.ext hw) rfl rfl) ?_
  refine Q_v (fun w hw => R_shrB rfl rfl) ?_
  refine Q_v (fun w hw => R_convN (e := ((m).b5.toNat / 16)) Tryz.runUnderlying5 Tryz.runUnderlying3 rfl (by (try simp only [List.length_take, List.length_drop, List.length_append, List.length_cons, List.length_nil, List.length_replicate, List.length_set, Nm.b_len, be2_len]); omega)) ?_
  refine Q_v (fun w hw => R_subN (m := ((((((((((240 - ((m).b0.toNat / 16)) - ((m).b0.toNat % 16)) - ((m).b1.toNat / 16)) - ((m).b1.toNat % 16)) - ((m).b2.toNat / 16)) - ((m).b2.toNat % 16)) - ((m).b3.toNat / 16)) - ((m).b3.toNat % 16)) - ((m).b4.toNat / 16)) - ((m).b4.toNat % 16))) (j := ((m).b5.toNat / 16)) rfl rfl (by (try simp only [List.length_take, List.length_drop, List.length_append, List.length_cons, List.length_nil, List.length_replicate, List.length_set, Nm.b_len, be2_len]); omega) (by (try simp only [List.length_take, List.length_drop, List.length_append, List.length_cons, List.length_nil, List.length_replicate, List.length_set, Nm.b_len, be2_len]); omega)) ?_
  refine Q_v (fun w hw => R_move rfl) ?_
  refine Q_v (fun w hw => R_indexAddrA Tryz.runUnderlying29 Tryz.sizeOf5 rfl rfl (by decide) (by decide)) ?_
  refine Q_v (fun w hw => R_load Tryz.isAgg5 (hB1_0.ext hw) rfl rfl) ?_
  refine Q_v (fun w hw => R_andB rfl rfl) ?_
  refine Q_v (fun w hw => R_convN (e := ((m).b5.toNat % 16)) Tryz.runUnderlying5 Tryz.runUnderlying3 rfl (by (try simp only [List.length_take, List.length_drop, List.length_append, List.length_cons, List.length_nil, List.length_replicate, List.length_set, Nm.b_len, be2_len]); omega)) ?_
  refine Q_v (fun w hw => R_subN (m := (((((((((((240 - ((m).b0.toNat / 16)) - ((m).b0.toNat % 16)) - ((m).b1.toNat / 16)) - ((m).b1.toNat % 16)) - ((m).b2.toNat / 16)) - ((m).b2.toNat % 16)) - ((m).b3.toNat / 16)) - ((m).b3.toNat % 16)) - ((m).b4.toNat / 16)) - ((m).b4.toNat % 16)) - ((m).b5.toNat / 16))) (j := ((m).b5.toNat % 16)) rfl rfl (by (try simp only [List.length_take, List.length_drop, List.length_append, List.length_cons, List.length_nil, List.length_replicate, List.length_set, Nm.b_len, be2_len]); omega) (by (try simp only [List.length_take, List.length_drop, List.length_append, List.length_cons, List.length_nil, List.length_replicate, List.length_set, Nm.b_len, be2_len]); omega)) ?_
  refine Q_v (fun w hw => R_assign rfl) ?_
  refine Q_nil (fun w27_99 e27_99 => ?_)
  replace hE := hE.trans e27_99
  replace hB1_0 := hB1_0.ext e27_99
  replace o26_12 := o26_12.ext e27_99
  refine T_bn ?_
  refine T_tn ?_
  refine W_region ?_
  refine L (D_v (R_move rfl) ?_)
  refine L (D_v (R_cast (v' := .int .i64 (6)) (R_addI rfl rfl) rfl) ?_)
  refine L (D_v (R_assign rfl) ?_)
  refine S_nil ?_
  refine T_tn ?_
  refine W_round ?_
  refine wp_seq ?_
  refine wp_seq ?_
  refine W_region ?_
  refine L (D_v (R_move rfl) ?_)
  refine L (D_v (R_cast (v' := .bool true) (R_lssI rfl rfl) rfl) ?_)
  refine S_nil ?_
  refine T_tn ?_
  refine W_ift rfl ?_
  refine wp_skip ?_
  refine T_tn ?_
  refine wp_seq ?_
  refine wp_block ?_
  refine wp_seq ?_
  refine W_held (fun W => Ext w W ∧ Blk W aB1_0 (m).l 29 ∧ True) mixed (fun w30_99 e30_99 => ?_)
  replace hE := hE.trans e30_99
  replace hB1_0 := hB1_0.ext e30_99
  replace o26_12 := o26_12.ext e30_99
  refine H_take (i := 0) rfl (by kernel_rfl) (by kernel_rfl) (by kernel_rfl) rfl (pq_then (pq_block (pq_then (pq_then (pq_block (pq_then pq_body)))))) ⟨hE, hB1_0, trivial⟩ rfl (fun w hw => R_move rfl) ?_
  refine H_take (i := 1) rfl (by kernel_rfl) (by kernel_rfl) (by kernel_rfl) rfl (pq_then (pq_block (pq_then (pq_then (pq_block (pq_then pq_body)))))) ⟨hE, hB1_0, trivial⟩ rfl (fun w hw => R_move rfl) ?_
  refine H_take (i := 2) rfl (by kernel_rfl) (by kernel_rfl) (by kernel_rfl) rfl (pq_then (pq_block (pq_then (pq_then (pq_block (pq_then pq_body)))))) ⟨hE, hB1_0, trivial⟩ rfl (fun w hw => R_indexAddrA Tryz.runUnderlying29 Tryz.sizeOf5 rfl rfl (by decide) (by decide)) ?_
  refine H_take (i := 3) rfl (by kernel_rfl) (by kernel_rfl) (by kernel_rfl) rfl (pq_then (pq_block (pq_then (pq_then (pq_block (pq_then pq_body)))))) ⟨hE, hB1_0, trivial⟩ rfl (fun w hw => R_load Tryz.isAgg5 hw.2.1 rfl rfl) ?_
  refine H_take (i := 4) rfl (by kernel_rfl) (by kernel_rfl) (by kernel_rfl) rfl (pq_then (pq_block (pq_then (pq_then (pq_block (pq_then pq_body)))))) ⟨hE, hB1_0, trivial⟩ rfl (fun w hw => R_shrB rfl rfl) ?_
  refine H_take (i := 5) rfl (by kernel_rfl) (by kernel_rfl) (by kernel_rfl) rfl (pq_then (pq_block (pq_then (pq_then (pq_block (pq_then pq_body)))))) ⟨hE, hB1_0, trivial⟩ rfl (fun w hw => R_convN (e := ((m).b6.toNat / 16)) Tryz.runUnderlying5 Tryz.runUnderlying3 rfl (by (try simp only [List.length_take, List.length_drop, List.length_append, List.length_cons, List.length_nil, List.length_replicate, List.length_set, Nm.b_len, be2_len]); omega)) ?_
  refine H_take (i := 6) rfl (by kernel_rfl) (by kernel_rfl) (by kernel_rfl) rfl (pq_then (pq_block (pq_then (pq_then (pq_block (pq_then pq_body)))))) ⟨hE, hB1_0, trivial⟩ rfl (fun w hw => R_move rfl) ?_
  refine H_take (i := 7) rfl (by kernel_rfl) (by kernel_rfl) (by kernel_rfl) rfl (pq_then (pq_block (pq_then (pq_then (pq_block (pq_then pq_body)))))) ⟨hE, hB1_0, trivial⟩ rfl (fun w hw => R_indexAddrA Tryz.runUnderlying29 Tryz.sizeOf5 rfl rfl (by decide) (by decide)) ?_
  refine H_take (i := 8) rfl (by kernel_rfl) (by kernel_rfl) (by kernel_rfl) rfl (pq_then (pq_block (pq_then (pq_then (pq_block (pq_then pq_body)))))) ⟨hE, hB1_0, trivial⟩ rfl (fun w hw => R_load Tryz.isAgg5 hw.2.1 rfl rfl) ?_
  refine H_take (i := 9) rfl (by kernel_rfl) (by kernel_rfl) (by kernel_rfl) rfl (pq_then (pq_block (pq_then (pq_then (pq_block (pq_then pq_body)))))) ⟨hE, hB1_0, trivial⟩ rfl (fun w hw => R_andB rfl rfl) ?_
  refine H_take (i := 10) rfl (by kernel_rfl) (by kernel_rfl) (by kernel_rfl) rfl (pq_then (pq_block (pq_then (pq_then (pq_block (pq_then pq_body)))))) ⟨hE, hB1_0, trivial⟩ rfl (fun w hw => R_convN (e := ((m).b6.toNat % 16)) Tryz.runUnderlying5 Tryz.runUnderlying3 rfl (by (try simp only [List.length_take, List.length_drop, List.length_append, List.length_cons, List.length_nil, List.length_replicate, List.length_set, Nm.b_len, be2_len]); omega)) ?_
  refine H_op (i := 11) (by kernel_rfl) rfl rfl (D_buildI2 (lo := w.heap.size) (a := ((m).b6.toNat / 16)) (b := ((m).b6.toNat % 16)) Tryz.underlying126 Tryz.sizeOf3 Tryz.zeroValue3 (mapp2 rfl rfl) (fun v30_11 w30_11 o30_11 e30_11 => ?_))
  have zv26_12_v30_11 := own_apart o26_12.1 o30_11.1
  have zv30_11_v26_12 := fun k hk hk2 => zv26_12_v30_11 k hk2 hk
  replace o30_11 := o30_11.low hE.size
  replace hE := hE.trans e30_11
  replace hB1_0 := hB1_0.ext e30_11
  replace o26_12 := o26_12.ext e30_11
  refine ⟨⟨hE, hB1_0, trivial⟩, ?_⟩
  refine H_op (i := 12) (by kernel_rfl) rfl rfl (D_appendL elt3 Tryz.underlying126 rfl rfl o26_12 (Nat.le_refl _) o30_11.ls (by (try simp only [List.length_take, List.length_drop, List.length_append, List.length_cons, List.length_nil, List.length_replicate, List.length_set, Nm.b_len, be2_len]); omega) (by (try simp only [List.length_take, List.length_drop, List.length_append, List.length_cons, List.length_nil, List.length_replicate, List.length_set, Nm.b_len, be2_len]); omega) hE.size (fun v30_12 w30_12 o30_12 g30_12 f30_12 sv30_12 => ?_))
  have zv30_11_v30_12 : ∀ k, Value.ownBlock v30_11 = some k → Value.ownBlock v30_12 ≠ some k := fun k hk2 hk => (sv30_12 _ hk).elim (fun h => zv30_11_v26_12 k hk2 h) (fun h => absurd h (Nat.not_le.2 (own_lt o30_11.1 hk2)))
  have zv30_12_v30_11 := fun k hk hk2 => zv30_11_v30_12 k hk2 hk
  replace hE := hE.grown g30_12 (fun k hk => own_ge o26_12.1 hk)
  replace hB1_0 := hB1_0.grown g30_12 (own_neB o26_12.1 hB1_0 rfl)
  replace o30_11 := o30_11.grown g30_12 (zv30_11_v26_12) f30_12
  refine ⟨⟨hE, hB1_0, trivial⟩, ?_⟩
  refine H_take (i := 13) rfl (by kernel_rfl) (by kernel_rfl) (by kernel_rfl) rfl (pq_then (pq_block (pq_then (pq_then (pq_block (pq_then pq_body)))))) ⟨hE, hB1_0, trivial⟩ rfl (fun w hw => R_assign rfl) ?_
  refine H_done (by kernel_rfl) ?_
  refine T_tn ?_
  refine W_draw mixed (by kernel_rfl) ?_
  refine Q_v (fun w hw => R_move rfl) ?_
  refine Q_v (fun w hw => R_move rfl) ?_
  refine Q_v (fun w hw => R_indexAddrA Tryz.runUnderlying29 Tryz.sizeOf5 rfl rfl (by decide) (by decide)) ?_
  refine Q_v (fun w hw => R_load Tryz.isAgg5 (hB1_0.ext hw) rfl rfl) ?_
  refine Q_v (fun w hw => R_shrB rfl rfl) ?_
  refine Q_v (fun w hw => R_convN (e := ((m).b6.toNat / 16)) Tryz.runUnderlying5 Tryz.runUnderlying3 rfl (by (try simp only [List.length_take, List.length_drop, List.length_append, List.length_cons, List.length_nil, List.length_replicate, List.length_set, Nm.b_len, be2_len]); omega)) ?_
  refine Q_v (fun w hw => R_subN (m := ((((((((((((240 - ((m).b0.toNat / 16)) - ((m).b0.toNat % 16)) - ((m).b1.toNat / 16)) - ((m).b1.toNat % 16)) - ((m).b2.toNat / 16)) - ((m).b2.toNat % 16)) - ((m).b3.toNat / 16)) - ((m).b3.toNat % 16)) - ((m).b4.toNat / 16)) - ((m).b4.toNat % 16)) - ((m).b5.toNat / 16)) - ((m).b5.toNat % 16))) (j := ((m).b6.toNat / 16)) rfl rfl (by (try simp only [List.length_take, List.length_drop, List.length_append, List.length_cons, List.length_nil, List.length_replicate, List.length_set, Nm.b_len, be2_len]); omega) (by (try simp only [List.length_take, List.length_drop, List.length_append, List.length_cons, List.length_nil, List.length_replicate, List.length_set, Nm.b_len, be2_len]); omega)) ?_
  refine Q_v (fun w hw => R_move rfl) ?_
  refine Q_v (fun w hw => R_indexAddrA Tryz.runUnderlying29 Tryz.sizeOf5 rfl rfl (by decide) (by decide)) ?_
  refine Q_v (fun w hw => R_load Tryz.isAgg5 (hB1_0.ext hw) rfl rfl) ?_
  refine Q_v (fun w hw => R_andB rfl rfl) ?_
  refine Q_v (fun w hw => R_convN (e := ((m).b6.toNat % 16)) Tryz.runUnderlying5 Tryz.runUnderlying3 rfl (by (try simp only [List.length_take, List.length_drop, List.length_append, List.length_cons, List.length_nil, List.length_replicate, List.length_set, Nm.b_len, be2_len]); omega)) ?_
  refine Q_v (fun w hw => R_subN (m := (((((((((((((240 - ((m).b0.toNat / 16)) - ((m).b0.toNat % 16)) - ((m).b1.toNat / 16)) - ((m).b1.toNat % 16)) - ((m).b2.toNat / 16)) - ((m).b2.toNat % 16)) - ((m).b3.toNat / 16)) - ((m).b3.toNat % 16)) - ((m).b4.toNat / 16)) - ((m).b4.toNat % 16)) - ((m).b5.toNat / 16)) - ((m).b5.toNat % 16)) - ((m).b6.toNat / 16))) (j := ((m).b6.toNat % 16)) rfl rfl (by (try simp only [List.length_take, List.length_drop, List.length_append, List.length_cons, List.length_nil, List.length_replicate, List.length_set, Nm.b_len, be2_len]); omega) (by (try simp only [List.length_take, List.length_drop, List.length_append, List.length_cons, List.length_nil, List.length_replicate, List.length_set, Nm.b_len, be2_len]); omega)) ?_
  refine Q_v (fun w hw => R_assign rfl) ?_
  refine Q_nil (fun w31_99 e31_99 => ?_)
  replace hE := hE.trans e31_99
  replace hB1_0 := hB1_0.ext e31_99
  replace o30_12 := o30_12.ext e31_99
  refine T_bn ?_
  refine T_tn ?_
  refine W_region ?_
  refine L (D_v (R_move rfl) ?_)
  refine L (D_v (R_cast (v' := .int .i64 (7)) (R_addI rfl rfl) rfl) ?_)
  refine L (D_v (R_assign rfl) ?_)
  refine S_nil ?_
  refine T_tn ?_
  refine W_round ?_
  refine wp_seq ?_
  refine wp_seq ?_
  refine W_region ?_
  refine L (D_v (R_move rfl) ?_)
  refine L (D_v (R_cast (v' := .bool true) (R_lssI rfl rfl) rfl) ?_)
  refine S_nil ?_
  refine T_tn ?_
  refine W_ift rfl ?_
  refine wp_skip ?_
  refine T_tn ?_
  refine wp_seq ?_
  refine wp_block ?_
  refine wp_seq ?_
  refine W_held (fun W => Ext w W ∧ Blk W aB1_0 (m).l 29 ∧ True) mixed (fun w34_99 e34_99 => ?_)
  replace hE := hE.trans e34_99
  replace hB1_0 := hB1_0.ext e34_99
  replace o30_12 := o30_12.ext e34_99
  refine H_take (i := 0) rfl (by kernel_rfl) (by kernel_rfl) (by kernel_rfl) rfl (pq_then (pq_block (pq_then (pq_then (pq_block (pq_then pq_body)))))) ⟨hE, hB1_0, trivial⟩ rfl (fun w hw => R_move rfl) ?_
  refine H_take (i := 1) rfl (by kernel_rfl) (by kernel_rfl) (by kernel_rfl) rfl (pq_then (pq_block (pq_then (pq_then (pq_block (pq_then pq_body)))))) ⟨hE, hB1_0, trivial⟩ rfl (fun w hw => R_move rfl) ?_
  refine H_take (i := 2) rfl (by kernel_rfl) (by kernel_rfl) (by kernel_rfl) rfl (pq_then (pq_block (pq_then (pq_then (pq_block (pq_then pq_body)))))) ⟨hE, hB1_0, trivial⟩ rfl (fun w hw => R_indexAddrA Tryz.runUnderlying29 Tryz.sizeOf5 rfl rfl (by decide) (by decide)) ?_
  refine H_take (i := 3) rfl (by kernel_rfl) (by kernel_rfl) (by kernel_rfl) rfl (pq_then (pq_block (pq_then (pq_then (pq_block (pq_then pq_body)))))) ⟨hE, hB1_0, trivial⟩ rfl (fun w hw => R_load Tryz.isAgg5 hw.2.1 rfl rfl) ?_
  refine H_take (i := 4) rfl (by kernel_rfl) (by kernel_rfl) (by kernel_rfl) rfl (pq_then (pq_block (pq_then (pq_then (pq_block (pq_then pq_body)))))) ⟨hE, hB1_0, trivial⟩ rfl (fun w hw => R_shrB rfl rfl) ?_
  refine H_take (i := 5) rfl (by kernel_rfl) (by kernel_rfl) (by kernel_rfl) rfl (pq_then (pq_block (pq_then (pq_then (pq_block (pq_then pq_body)))))) ⟨hE, hB1_0, trivial⟩ rfl (fun w hw => R_convN (e := ((m).b7.toNat / 16)) Tryz.runUnderlying5 Tryz.runUnderlying3 rfl (by (try simp only [List.length_take, List.length_drop, List.length_append, List.length_cons, List.length_nil, List.length_replicate, List.length_set, Nm.b_len, be2_len]); omega)) ?_
  refine H_take (i := 6) rfl (by kernel_rfl) (by kernel_rfl) (by kernel_rfl) rfl (pq_then (pq_block (pq_then (pq_then (pq_block (pq_then pq_body)))))) ⟨hE, hB1_0, trivial⟩ rfl (fun w hw => R_move rfl) ?_
  refine H_take (i := 7) rfl (by kernel_rfl) (by kernel_rfl) (by kernel_rfl) rfl (pq_then (pq_block (pq_then (pq_then (pq_block (pq_then pq_body)))))) ⟨hE, hB1_0, trivial⟩ rfl (fun w hw => R_indexAddrA Tryz.runUnderlying29 Tryz.sizeOf5 rfl rfl (by decide) (by decide)) ?_
  refine H_take (i := 8) rfl (by kernel_rfl) (by kernel_rfl) (by kernel_rfl) rfl (pq_then (pq_block (pq_then (pq_then (pq_block (pq_then pq_body)))))) ⟨hE, hB1_0, trivial⟩ rfl (fun w hw => R_load Tryz.isAgg5 hw.2.1 rfl rfl) ?_
  refine H_take (i := 9) rfl (by kernel_rfl) (by kernel_rfl) (by kernel_rfl) rfl (pq_then (pq_block (pq_then (pq_then (pq_block (pq_then pq_body)))))) ⟨hE, hB1_0, trivial⟩ rfl (fun w hw => R_andB rfl rfl) ?_
  refine H_take (i := 10) rfl (by kernel_rfl) (by kernel_rfl) (by kernel_rfl) rfl (pq_then (pq_block (pq_then (pq_then (pq_block (pq_then pq_body)))))) ⟨hE, hB1_0, trivial⟩ rfl (fun w hw => R_convN (e := ((m).b7.toNat % 16)) Tryz.runUnderlying5 Tryz.runUnderlying3 rfl (by (try simp only [List.length_take, List.length_drop, List.length_append, List.length_cons, List.length_nil, List.length_replicate, List.length_set, Nm.b_len, be2_len]); omega)) ?_
  refine H_op (i := 11) (by kernel_rfl) rfl rfl (D_buildI2 (lo := w.heap.size) (a := ((m).b7.toNat / 16)) (b := ((m).b7.toNat % 16)) Tryz.underlying126 Tryz.sizeOf3 Tryz.zeroValue3 (mapp2 rfl rfl) (fun v34_11 w34_11 o34_11 e34_11 => ?_))
  have zv30_12_v34_11 := own_apart o30_12.1 o34_11.1
  have zv34_11_v30_12 := fun k hk hk2 => zv30_12_v34_11 k hk2 hk
  replace o34_11 := o34_11.low hE.size
  replace hE := hE.trans e34_11
  replace hB1_0 := hB1_0.ext e34_11
  replace o30_12 := o30_12.ext e34_11
  refine ⟨⟨hE, hB1_0, trivial⟩, ?_⟩
  refine H_op (i := 12) (by kernel_rfl) rfl rfl (D_appendL elt3 Tryz.underlying126 rfl rfl o30_12 (Nat.le_refl _) o34_11.ls (by (try simp only [List.length_take, List.length_drop, List.length_append, List.length_cons, List.length_nil, List.length_replicate, List.length_set, Nm.b_len, be2_len]); omega) (by (try simp only [List.length_take, List.length_drop, List.length_append, List.length_cons, List.length_nil, List.length_replicate, List.length_set, Nm.b_len, be2_len]); omega) hE.size (fun v34_12 w34_12 o34_12 g34_12 f34_12 sv34_12 => ?_))
  have zv34_11_v34_12 : ∀ k, Value.ownBlock v34_11 = some k → Value.ownBlock v34_12 ≠ some k := fun k hk2 hk => (sv34_12 _ hk).elim (fun h => zv34_11_v30_12 k hk2 h) (fun h => absurd h (Nat.not_le.2 (own_lt o34_11.1 hk2)))
  have zv34_12_v34_11 := fun k hk hk2 => zv34_11_v34_12 k hk2 hk
  replace hE := hE.grown g34_12 (fun k hk => own_ge o30_12.1 hk)
  replace hB1_0 := hB1_0.grown g34_12 (own_neB o30_12.1 hB1_0 rfl)
  replace o34_11 := o34_11.grown g34_12 (zv34_11_v30_12) f34_12
  refine ⟨⟨hE, hB1_0, trivial⟩, ?_⟩
  refine H_take (i := 13) rfl (by kernel_rfl) (by kernel_rfl) (by kernel_rfl) rfl (pq_then (pq_block (pq_then (pq_then (pq_block (pq_then pq_body)))))) ⟨hE, hB1_0, trivial⟩ rfl (fun w hw => R_assign rfl) ?_
  refine H_done (by kernel_rfl) ?_
  refine T_tn ?_
  refine W_draw mixed (by kernel_rfl) ?_
  refine Q_v (fun w hw => R_move rfl) ?_
  refine Q_v (fun w hw => R_move rfl) ?_
  refine Q_v (fun w hw => R_indexAddrA Tryz.runUnderlying29 Tryz.sizeOf5 rfl rfl (by decide) (by decide)) ?_
  refine Q_v (fun w hw => R_load Tryz.isAgg5 (hB1_0.ext hw) rfl rfl) ?_
  refine Q_v (fun w hw => R_shrB rfl rfl) ?_
  refine Q_v (fun w hw => R_convN (e := ((m).b7.toNat / 16)) Tryz.runUnderlying5 Tryz.runUnderlying3 rfl (by (try simp only [List.length_take, List.length_drop, List.length_append, List.length_cons, List.length_nil, List.length_replicate, List.length_set, Nm.b_len, be2_len]); omega)) ?_
  refine Q_v (fun w hw => R_subN (m := ((((((((((((((240 - ((m).b0.toNat / 16)) - ((m).b0.toNat % 16)) - ((m).b1.toNat / 16)) - ((m).b1.toNat % 16)) - ((m).b2.toNat / 16)) - ((m).b2.toNat % 16)) - ((m).b3.toNat / 16)) - ((m).b3.toNat % 16)) - ((m).b4.toNat / 16)) - ((m).b4.toNat % 16)) - ((m).b5.toNat / 16)) - ((m).b5.toNat % 16)) - ((m).b6.toNat / 16)) - ((m).b6.toNat % 16))) (j := ((m).b7.toNat / 16)) rfl rfl (by (try simp only [List.length_take, List.length_drop, List.length_append, List.length_cons, List.length_nil, List.length_replicate, List.length_set, Nm.b_len, be2_len]); omega) (by (try simp only [List.length_take, List.length_drop, List.length_append, List.length_cons, List.length_nil, List.length_replicate, List.length_set, Nm.b_len, be2_len]); omega)) ?_
  refine Q_v (fun w hw => R_move rfl) ?_
  refine Q_v (fun w hw => R_indexAddrA Tryz.runUnderlying29 Tryz.sizeOf5 rfl rfl (by decide) (by decide)) ?_
  refine Q_v (fun w hw => R_load Tryz.isAgg5 (hB1_0.ext hw) rfl rfl) ?_
  refine Q_v (fun w hw => R_andB rfl rfl) ?_
  refine Q_v (fun w hw => R_convN (e := ((m).b7.toNat % 16)) Tryz.runUnderlying5 Tryz.runUnderlying3 rfl (by (try simp only [List.length_take, List.length_drop, List.length_append, List.length_cons, List.length_nil, List.length_replicate, List.length_set, Nm.b_len, be2_len]); omega)) ?_
  refine Q_v (fun w hw => R_subN (m := (((((((((((((((240 - ((m).b0.toNat / 16)) - ((m).b0.toNat % 16)) - ((m).b1.toNat / 16)) - ((m).b1.toNat % 16)) - ((m).b2.toNat / 16)) - ((m).b2.toNat % 16)) - ((m).b3.toNat / 16)) - ((m).b3.toNat % 16)) - ((m).b4.toNat / 16)) - ((m).b4.toNat % 16)) - ((m).b5.toNat / 16)) - ((m).b5.toNat % 16)) - ((m).b6.toNat / 16)) - ((m).b6.toNat % 16)) - ((m).b7.toNat / 16))) (j := ((m).b7.toNat % 16)) rfl rfl (by (try simp only [List.length_take, List.length_drop, List.length_append, List.length_cons, List.length_nil, List.length_replicate, List.length_set, Nm.b_len, be2_len]); omega) (by (try simp only [List.length_take, List.length_drop, List.length_append, List.length_cons, List.length_nil, List.length_replicate, List.length_set, Nm.b_len, be2_len]); omega)) ?_
  refine Q_v (fun w hw => R_assign rfl) ?_
  refine Q_nil (fun w35_99 e35_99 => ?_)
  replace hE := hE.trans e35_99
  replace hB1_0 := hB1_0.ext e35_99
  replace o34_12 := o34_12.ext e35_99
  refine T_bn ?_
  refine T_tn ?_
  refine W_region ?_
  refine L (D_v (R_move rfl) ?_)
  refine L (D_v (R_cast (v' := .int .i64 (8)) (R_addI rfl rfl) rfl) ?_)
  refine L (D_v (R_assign rfl) ?_)
  refine S_nil ?_
  refine T_tn ?_
  refine W_round ?_
  refine wp_seq ?_
  refine wp_seq ?_
  refine W_region ?_
  refine L (D_v (R_move rfl) ?_)
  refine L (D_v (R_cast (v' := .bool false) (R_lssI rfl rfl) rfl) ?_)
  refine S_nil ?_
  refine T_tn ?_
  refine W_iff rfl ?_
  refine wp_exit ?_
  refine T_te ?_
  refine T_te ?_
  refine T_be ?_
  refine T_tn ?_
  refine wp_seq ?_
  refine W_region ?_
  refine L (D_v (R_move rfl) ?_)
  refine L (D_v (R_move rfl) ?_)
  refine L (D_v (R_quoN (m := ((((((((((((((((240 - ((m).b0.toNat / 16)) - ((m).b0.toNat % 16)) - ((m).b1.toNat / 16)) - ((m).b1.toNat % 16)) - ((m).b2.toNat / 16)) - ((m).b2.toNat % 16)) - ((m).b3.toNat / 16)) - ((m).b3.toNat % 16)) - ((m).b4.toNat / 16)) - ((m).b4.toNat % 16)) - ((m).b5.toNat / 16)) - ((m).b5.toNat % 16)) - ((m).b6.toNat / 16)) - ((m).b6.toNat % 16)) - ((m).b7.toNat / 16)) - ((m).b7.toNat % 16))) (j := 16) rfl rfl (by decide) (by (try simp only [List.length_take, List.length_drop, List.length_append, List.length_cons, List.length_nil, List.length_replicate, List.length_set, Nm.b_len, be2_len]); omega)) ?_)
  refine L (D_v (R_move rfl) ?_)
  refine L (D_v (R_remN (m := ((((((((((((((((240 - ((m).b0.toNat / 16)) - ((m).b0.toNat % 16)) - ((m).b1.toNat / 16)) - ((m).b1.toNat % 16)) - ((m).b2.toNat / 16)) - ((m).b2.toNat % 16)) - ((m).b3.toNat / 16)) - ((m).b3.toNat % 16)) - ((m).b4.toNat / 16)) - ((m).b4.toNat % 16)) - ((m).b5.toNat / 16)) - ((m).b5.toNat % 16)) - ((m).b6.toNat / 16)) - ((m).b6.toNat % 16)) - ((m).b7.toNat / 16)) - ((m).b7.toNat % 16))) (j := 16) rfl rfl (by decide) (by (try simp only [List.length_take, List.length_drop, List.length_append, List.length_cons, List.length_nil, List.length_replicate, List.length_set, Nm.b_len, be2_len]); omega)) ?_)
  refine L (D_buildI2 (lo := w.heap.size) (a := (((((((((((((((((240 - ((m).b0.toNat / 16)) - ((m).b0.toNat % 16)) - ((m).b1.toNat / 16)) - ((m).b1.toNat % 16)) - ((m).b2.toNat / 16)) - ((m).b2.toNat % 16)) - ((m).b3.toNat / 16)) - ((m).b3.toNat % 16)) - ((m).b4.toNat / 16)) - ((m).b4.toNat % 16)) - ((m).b5.toNat / 16)) - ((m).b5.toNat % 16)) - ((m).b6.toNat / 16)) - ((m).b6.toNat % 16)) - ((m).b7.toNat / 16)) - ((m).b7.toNat % 16)) / 16)) (b := (((((((((((((((((240 - ((m).b0.toNat / 16)) - ((m).b0.toNat % 16)) - ((m).b1.toNat / 16)) - ((m).b1.toNat % 16)) - ((m).b2.toNat / 16)) - ((m).b2.toNat % 16)) - ((m).b3.toNat / 16)) - ((m).b3.toNat % 16)) - ((m).b4.toNat / 16)) - ((m).b4.toNat % 16)) - ((m).b5.toNat / 16)) - ((m).b5.toNat % 16)) - ((m).b6.toNat / 16)) - ((m).b6.toNat % 16)) - ((m).b7.toNat / 16)) - ((m).b7.toNat % 16)) % 16)) Tryz.underlying126 Tryz.sizeOf3 Tryz.zeroValue3 (mapp2 rfl rfl) (fun v38_5 w38_5 o38_5 e38_5 => ?_))
  have zv34_12_v38_5 := own_apart o34_12.1 o38_5.1
  have zv38_5_v34_12 := fun k hk hk2 => zv34_12_v38_5 k hk2 hk
  replace o38_5 := o38_5.low hE.size
  replace hE := hE.trans e38_5
  replace o34_12 := o34_12.ext e38_5
  refine L (D_appendL elt3 Tryz.underlying126 rfl rfl o34_12 (Nat.le_refl _) o38_5.ls (by (try simp only [List.length_take, List.length_drop, List.length_append, List.length_cons, List.length_nil, List.length_replicate, List.length_set, Nm.b_len, be2_len]); omega) (by (try simp only [List.length_take, List.length_drop, List.length_append, List.length_cons, List.length_nil, List.length_replicate, List.length_set, Nm.b_len, be2_len]); omega) hE.size (fun v38_6 w38_6 o38_6 g38_6 f38_6 sv38_6 => ?_))
  have zv38_5_v38_6 : ∀ k, Value.ownBlock v38_5 = some k → Value.ownBlock v38_6 ≠ some k := fun k hk2 hk => (sv38_6 _ hk).elim (fun h => zv38_5_v34_12 k hk2 h) (fun h => absurd h (Nat.not_le.2 (own_lt o38_5.1 hk2)))
  have zv38_6_v38_5 := fun k hk hk2 => zv38_5_v38_6 k hk2 hk
  replace hE := hE.grown g38_6 (fun k hk => own_ge o34_12.1 hk)
  replace o38_5 := o38_5.grown g38_6 (zv38_5_v34_12) f38_6
  refine L (D_v (R_assign rfl) ?_)
  refine S_nil ?_
  refine T_tn ?_
  refine wp_ret ?_
  refine ret1 (v := v38_6) rfl rfl ⟨_, rfl, hE, ?_⟩
  unfold digits drest; simp only [Nat.sub_add_eq]; first | exact o38_6 | (simp only [Nat.sub_add_eq] at o38_6; exact o38_6)
end Go.Proofs.YteeopgpgbdhmhaaGreat
namespace Go.Proofs.YteeopgpgbdhmhaaGreat
open Go.RowKit
set_option linter.unusedVariables false
set_option linter.unusedSimpArgs false
attribute [local irreducible] wpList wpO H wpQuiet wpStill Code.wp Exit.then Exit.inBlock bodyPost Code.rounds Calls valid sameKey conflict lessV hless num between
set_option maxRecDepth 4000 in
set_option maxHeartbeats 1000000 in
theorem c179 (v : Nm) (c p q : Nat) (w : World) (hc : c ≤ 1000) (hp : p ≤ q) (hq : q ≤ 1000) : Calls Tryz.prog 120 [v.v, i64 ((c : Nat) : Int), i64 ((p : Nat) : Int), i64 ((q : Nat) : Int)].toArray w (Ret w (wk c (q - p) p v).v) := by
  refine enter Tryz.func120 Tryz.ntmps120 rfl rfl ?_
  have hE := Ext.refl w
  refine wp_seq ?_
  refine W_region ?_
  refine L (D_box (c := (v).l) (rfl) (fun aB1_0 w1_0 e1_0 gB1_0 hB1_0 => ?_))
  have lB1_0 := Nat.le_trans hE.size gB1_0
  replace hE := hE.trans e1_0
  refine L (D_alloc (c := (Nm.zero).l) Tryz.zeroValue29 rfl (fun aB1_1 w1_1 e1_1 gB1_1 hB1_1 => ?_))
  have lB1_1 := Nat.le_trans hE.size gB1_1
  have nB1_0B1_1 := hB1_0.ne gB1_1
  replace hE := hE.trans e1_1
  replace hB1_0 := hB1_0.ext e1_1
  refine S_nil ?_
  refine T_tn ?_
  refine wp_seq ?_
  refine wp_seq ?_
  refine W_region ?_
  refine L (D_v (R_move rfl) ?_)
  refine L (D_v (R_move rfl) ?_)
  refine L (D_v (R_subN (m := q) (j := p) rfl rfl (by (try simp only [List.length_take, List.length_drop, List.length_append, List.length_cons, List.length_nil, List.length_replicate, List.length_set, Nm.b_len, be2_len]); omega) (by (try simp only [List.length_take, List.length_drop, List.length_append, List.length_cons, List.length_nil, List.length_replicate, List.length_set, Nm.b_len, be2_len]); omega)) ?_)
  refine L (D_v (R_move rfl) ?_)
  refine S_nil ?_
  refine T_tn ?_
  refine wp_block ?_
  refine W_loop (fun mz g W => ∃ (V : Nm) (i : Nat), mz = q - p - i ∧ g 1 = i64 ((c : Nat) : Int) ∧ g 2 = i64 ((p : Nat) : Int) ∧ g 4 = .pointer (some ⟨aB1_0, 0, none⟩) ∧ g 8 = .pointer (some ⟨aB1_1, 0, none⟩) ∧ g 12 = i64 (((q - p) : Nat) : Int) ∧ g 13 = i64 ((i : Nat) : Int) ∧ Ext w W ∧ Blk W aB1_0 (V).l 29 ∧ Blk W aB1_1 (Nm.zero).l 29 ∧ i ≤ q - p ∧ wk c (q - p - i) (p + i) V = wk c (q - p) p v) ⟨v, 0, rfl, rfl, rfl, rfl, rfl, rfl, rfl, hE, hB1_0, hB1_1, (Nat.zero_le _), rfl⟩ ?_
  rintro mz f3 w3l ⟨V, i, hm, q1, q2, q4, q8, q12, q13, hE, hB1_0, hB1_1, hi, hw⟩
  refine wp_seq ?_
  refine W_region ?_
  refine L (D_v (R_lssI q13 q12) ?_)
  refine S_nil ?_
  refine T_tn ?_
  refine wp_seq ?_
  refine W_if rfl (fun c1 => ?_) (fun c1 => ?_)
  ·
    have lk : i < q - p := by simp at c1; omega
    refine wp_skip ?_
    refine T_tn ?_
    refine wp_seq ?_
    refine wp_block ?_
    refine wp_seq ?_
    refine W_region ?_
    refine L (D_v (R_move q13) ?_)
    refine L (D_v (R_assign rfl) ?_)
    refine S_nil ?_
    refine T_tn ?_
    refine W_region ?_
    refine L (D_v (R_sliceArr (len := 7) Tryz.underlying29 Tryz.sizeOf5 q4) ?_)
    refine L (D_v (R_move q1) ?_)
    refine L (D_v (R_convB Tryz.runUnderlying3 rfl) ?_)
    refine L (D_v (R_move q2) ?_)
    refine L (D_v (R_move rfl) ?_)
    refine L (D_v (R_addN (m := p) (j := i) rfl rfl (by (try simp only [List.length_take, List.length_drop, List.length_append, List.length_cons, List.length_nil, List.length_replicate, List.length_set, Nm.b_len, be2_len]); omega)) ?_)
    refine L (D_v (R_convB Tryz.runUnderlying3 rfl) ?_)
    refine L (D_buildB (vs := [(0, u8 (by8 (((c : Nat) : Int)))), (1, u8 (by8 ((((p + i) : Nat) : Int))))]) (b := [(by8 (((c : Nat) : Int))), (by8 ((((p + i) : Nat) : Int)))]) Tryz.underlying32 Tryz.sizeOf5 Tryz.zeroValue5 rfl (fillB2 _ _) rfl rfl rfl (fun v6_7 w6_7 o6_7 e6_7 => ?_))
    replace o6_7 := o6_7.lo hE.size
    replace hE := hE.trans e6_7
    replace hB1_0 := hB1_0.ext e6_7
    replace hB1_1 := hB1_1.ext e6_7
    refine L (D_appendFullB (k := 8) elt5 Tryz.underlying32 rfl rfl (hB1_0.bs 0 (V).b rfl rfl rfl) rfl rfl o6_7.bs (Nat.le_of_ble_eq_true rfl) (by (try simp only [List.length_take, List.length_drop, List.length_append, List.length_cons, List.length_nil, List.length_replicate, List.length_set, Nm.b_len, be2_len]); omega) (fun v6_8 w6_8 o6_8 e6_8 => ?_))
    have zv6_7_v6_8 := own_apart o6_7 o6_8
    have zv6_8_v6_7 := fun k hk hk2 => zv6_7_v6_8 k hk2 hk
    replace o6_8 := o6_8.lo hE.size
    replace hE := hE.trans e6_8
    replace hB1_0 := hB1_0.ext e6_8
    replace hB1_1 := hB1_1.ext e6_8
    replace o6_7 := o6_7.ext e6_8
    refine L (D_call (R_callF Tryz.call70 rfl rfl) (c37 (33) v6_8 (((V).b ++ [(by8 (((c : Nat) : Int))), (by8 ((((p + i) : Nat) : Int)))])) _ o6_8.bs (by (try simp only [List.length_take, List.length_drop, List.length_append, List.length_cons, List.length_nil, List.length_replicate, List.length_set, Nm.b_len, be2_len]); omega)) (fun w6_9 e6_9 => ?_))
    replace hE := hE.trans e6_9
    replace hB1_0 := hB1_0.ext e6_9
    replace hB1_1 := hB1_1.ext e6_9
    replace o6_7 := o6_7.ext e6_9
    replace o6_8 := o6_8.ext e6_9
    have xo6_7 := own_neB o6_7 hB1_0 rfl
    have xo6_8 := own_neB o6_8 hB1_0 rfl
    have h0 := hB1_0
    refine L (D_storeA Tryz.sizeOf29 hB1_0 q4 rfl rfl rfl rfl (l' := ((hashB (33 :: ((V).b ++ [(by8 (((c : Nat) : Int))), (by8 ((((p + i) : Nat) : Int)))])))).l) rfl (fun w6_10 k6_10 hB1_0 => ?_))
    replace hE := hE.kp k6_10 lB1_0
    replace hB1_1 := hB1_1.kp k6_10 nB1_0B1_1.symm
    replace o6_7 := o6_7.kp k6_10 xo6_7
    replace o6_8 := o6_8.kp k6_10 xo6_8
    refine S_nil ?_
    refine T_bn ?_
    refine T_tn ?_
    refine W_region ?_
    refine L (D_v (R_addN (m := i) (j := 1) q13 rfl (by (try simp only [List.length_take, List.length_drop, List.length_append, List.length_cons, List.length_nil, List.length_replicate, List.length_set, Nm.b_len, be2_len]); omega)) ?_)
    refine L (D_v (R_move rfl) ?_)
    refine S_nil ?_
    refine T_tn ?_
    refine ⟨_, _, ?_, rfl, _, i + 1, rfl, q1, q2, q4, q8, q12, rfl, hE, hB1_0, hB1_1, ?_, ?_⟩
    all_goals first | omega | exact wk_step hw lk
  ·
    have lk : ¬ i < q - p := by simp at c1; omega
    refine wp_exit ?_
    refine T_te ?_
    refine T_te ?_
    refine T_be ?_
    refine T_tn ?_
    refine wp_seq ?_
    refine W_region ?_
    refine L (D_v (R_loadA (c := (V).l) Tryz.isAgg29 Tryz.sizeOf29 hB1_0 q4 rfl rfl) ?_)
    have h0 := hB1_1
    refine L (D_storeA Tryz.sizeOf29 hB1_1 q8 rfl rfl rfl rfl (l' := (V).l) rfl (fun w5_1 k5_1 hB1_1 => ?_))
    replace hE := hE.kp k5_1 lB1_1
    replace hB1_0 := hB1_0.kp k5_1 nB1_0B1_1
    refine S_nil ?_
    refine T_tn ?_
    refine wp_ret ?_
    refine retc (c := (V).l) rfl q8 Tryz.isAgg29 Tryz.sizeOf29 hB1_1 rfl rfl ⟨?_, hE⟩
    obtain rfl : i = q - p := by omega
    rw [Nat.sub_self, wk_zero] at hw; rw [← hw]; rfl
set_option maxRecDepth 4000 in
set_option maxHeartbeats 1000000 in
theorem c144 (v : Nm) (c p q : Nat) (w : World) (hc : c ≤ 1000) (hp : p ≤ q) (hq : q ≤ 1000) : Calls Tryz.prog 89 [v.v, i64 ((c : Nat) : Int), i64 ((p : Nat) : Int), i64 ((q : Nat) : Int)].toArray w (Ret w (wk c (q - p) p v).v) := by
  refine enter Tryz.func89 Tryz.ntmps89 rfl rfl ?_
  have hE := Ext.refl w
  refine wp_seq ?_
  refine W_region ?_
  refine L (D_box (c := (v).l) (rfl) (fun aB1_0 w1_0 e1_0 gB1_0 hB1_0 => ?_))
  have lB1_0 := Nat.le_trans hE.size gB1_0
  replace hE := hE.trans e1_0
  refine L (D_alloc (c := (Nm.zero).l) Tryz.zeroValue29 rfl (fun aB1_1 w1_1 e1_1 gB1_1 hB1_1 => ?_))
  have lB1_1 := Nat.le_trans hE.size gB1_1
  have nB1_0B1_1 := hB1_0.ne gB1_1
  replace hE := hE.trans e1_1
  replace hB1_0 := hB1_0.ext e1_1
  refine S_nil ?_
  refine T_tn ?_
  refine wp_seq ?_
  refine wp_seq ?_
  refine W_region ?_
  refine L (D_v (R_move rfl) ?_)
  refine L (D_v (R_assign rfl) ?_)
  refine S_nil ?_
  refine T_tn ?_
  refine wp_block ?_
  refine W_loop (fun mz g W => ∃ (V : Nm) (i : Nat), mz = q - p - i ∧ g 1 = i64 ((c : Nat) : Int) ∧ g 3 = i64 ((q : Nat) : Int) ∧ g 4 = .pointer (some ⟨aB1_0, 0, none⟩) ∧ g 8 = .pointer (some ⟨aB1_1, 0, none⟩) ∧ g 9 = i64 ((p + i : Nat) : Int) ∧ Ext w W ∧ Blk W aB1_0 (V).l 29 ∧ Blk W aB1_1 (Nm.zero).l 29 ∧ i ≤ q - p ∧ wk c (q - p - i) (p + i) V = wk c (q - p) p v) ⟨v, 0, rfl, rfl, rfl, rfl, rfl, rfl, hE, hB1_0, hB1_1, (Nat.zero_le _), rfl⟩ ?_
  rintro mz f3 w3l ⟨V, i, hm, q1, q3, q4, q8, q9, hE, hB1_0, hB1_1, hi, hw⟩
  refine wp_seq ?_
  refine wp_seq ?_
  refine W_region ?_
  refine L (D_v (R_move q9) ?_)
  refine L (D_v (R_move q3) ?_)
  refine L (D_v (R_lssI rfl rfl) ?_)
  refine S_nil ?_
  refine T_tn ?_
  refine W_if rfl (fun c1 => ?_) (fun c1 => ?_)
  ·
    have lk : i < q - p := by simp at c1; omega
    refine wp_skip ?_
    refine T_tn ?_
    refine wp_seq ?_
    refine wp_block ?_
    refine W_region ?_
    refine L (D_v (R_indexAddrA Tryz.runUnderlying29 Tryz.sizeOf5 q4 rfl (by decide) (by decide)) ?_)
    refine L (D_v (R_load Tryz.isAgg5 hB1_0 rfl rfl) ?_)
    refine L (D_v (R_indexAddrA Tryz.runUnderlying29 Tryz.sizeOf5 q4 rfl (by decide) (by decide)) ?_)
    refine L (D_v (R_load Tryz.isAgg5 hB1_0 rfl rfl) ?_)
    refine L (D_v (R_indexAddrA Tryz.runUnderlying29 Tryz.sizeOf5 q4 rfl (by decide) (by decide)) ?_)
    refine L (D_v (R_load Tryz.isAgg5 hB1_0 rfl rfl) ?_)
    refine L (D_v (R_indexAddrA Tryz.runUnderlying29 Tryz.sizeOf5 q4 rfl (by decide) (by decide)) ?_)
    refine L (D_v (R_load Tryz.isAgg5 hB1_0 rfl rfl) ?_)
    refine L (D_v (R_indexAddrA Tryz.runUnderlying29 Tryz.sizeOf5 q4 rfl (by decide) (by decide)) ?_)
    refine L (D_v (R_load Tryz.isAgg5 hB1_0 rfl rfl) ?_)
    refine L (D_v (R_indexAddrA Tryz.runUnderlying29 Tryz.sizeOf5 q4 rfl (by decide) (by decide)) ?_)
    refine L (D_v (R_load Tryz.isAgg5 hB1_0 rfl rfl) ?_)
    refine L (D_v (R_indexAddrA Tryz.runUnderlying29 Tryz.sizeOf5 q4 rfl (by decide) (by decide)) ?_)
    refine L (D_v (R_load Tryz.isAgg5 hB1_0 rfl rfl) ?_)
    refine L (D_v (R_indexAddrA Tryz.runUnderlying29 Tryz.sizeOf5 q4 rfl (by decide) (by decide)) ?_)
    refine L (D_v (R_load Tryz.isAgg5 hB1_0 rfl rfl) ?_)
    refine L (D_v (R_move q1) ?_)
    refine L (D_v (R_convB Tryz.runUnderlying3 rfl) ?_)
    refine L (D_v (R_move q9) ?_)
    refine L (D_v (R_convB Tryz.runUnderlying3 rfl) ?_)
    refine L (D_buildB (vs := [(0, u8 (33)), (1, u8 (V).b0), (2, u8 (V).b1), (3, u8 (V).b2), (4, u8 (V).b3), (5, u8 (V).b4), (6, u8 (V).b5), (7, u8 (V).b6), (8, u8 (V).b7), (9, u8 (by8 (((c : Nat) : Int)))), (10, u8 (by8 ((((p + i) : Nat) : Int))))]) (b := [33, (V).b0, (V).b1, (V).b2, (V).b3, (V).b4, (V).b5, (V).b6, (V).b7, (by8 (((c : Nat) : Int))), (by8 ((((p + i) : Nat) : Int)))]) Tryz.underlying32 Tryz.sizeOf5 Tryz.zeroValue5 rfl (fillB11 _ _ _ _ _ _ _ _ _ _ _) rfl rfl rfl (fun v5_20 w5_20 o5_20 e5_20 => ?_))
    replace o5_20 := o5_20.lo hE.size
    replace hE := hE.trans e5_20
    replace hB1_0 := hB1_0.ext e5_20
    replace hB1_1 := hB1_1.ext e5_20
    refine L (D_call (R_callF Tryz.call91 rfl rfl) (c114 v5_20 ([33, (V).b0, (V).b1, (V).b2, (V).b3, (V).b4, (V).b5, (V).b6, (V).b7, (by8 (((c : Nat) : Int))), (by8 ((((p + i) : Nat) : Int)))]) _ o5_20.bs (by (try simp only [List.length_take, List.length_drop, List.length_append, List.length_cons, List.length_nil, Nm.b_len, be2_len]); omega)) (fun w5_21 e5_21 => ?_))
    replace hE := hE.trans e5_21
    replace hB1_0 := hB1_0.ext e5_21
    replace hB1_1 := hB1_1.ext e5_21
    replace o5_20 := o5_20.ext e5_21
    have xo5_20 := own_neB o5_20 hB1_0 rfl
    have h0 := hB1_0
    refine L (D_storeA Tryz.sizeOf29 hB1_0 q4 rfl rfl rfl rfl (l' := ((hashB [33, (V).b0, (V).b1, (V).b2, (V).b3, (V).b4, (V).b5, (V).b6, (V).b7, (by8 (((c : Nat) : Int))), (by8 ((((p + i) : Nat) : Int)))])).l) rfl (fun w5_22 k5_22 hB1_0 => ?_))
    replace hE := hE.kp k5_22 lB1_0
    replace hB1_1 := hB1_1.kp k5_22 nB1_0B1_1.symm
    replace o5_20 := o5_20.kp k5_22 xo5_20
    refine S_nil ?_
    refine T_bn ?_
    refine T_tn ?_
    refine W_region ?_
    refine L (D_v (R_move q9) ?_)
    refine L (D_v (R_addN (m := (p + i)) (j := 1) rfl rfl (by (try simp only [List.length_take, List.length_drop, List.length_append, List.length_cons, List.length_nil, List.length_replicate, List.length_set, Nm.b_len, be2_len]); omega)) ?_)
    refine L (D_v (R_assign rfl) ?_)
    refine S_nil ?_
    refine T_tn ?_
    refine ⟨_, _, ?_, rfl, _, i + 1, rfl, q1, q3, q4, q8, rfl, hE, hB1_0, hB1_1, ?_, ?_⟩
    all_goals first | omega | exact wk_step hw lk
  ·
    have lk : ¬ i < q - p := by simp at c1; omega
    refine wp_exit ?_
    refine T_te ?_
    refine T_te ?_
    refine T_be ?_
    refine T_tn ?_
    refine wp_seq ?_
    refine W_region ?_
    refine L (D_v (R_loadA (c := (V).l) Tryz.isAgg29 Tryz.sizeOf29 hB1_0 q4 rfl rfl) ?_)
    have h0 := hB1_1
    refine L (D_storeA Tryz.sizeOf29 hB1_1 q8 rfl rfl rfl rfl (l' := (V).l) rfl (fun w5_1 k5_1 hB1_1 => ?_))
    replace hE := hE.kp k5_1 lB1_1
    replace hB1_0 := hB1_0.kp k5_1 nB1_0B1_1
    refine S_nil ?_
    refine T_tn ?_
    refine wp_ret ?_
    refine retc (c := (V).l) rfl q8 Tryz.isAgg29 Tryz.sizeOf29 hB1_1 rfl rfl ⟨?_, hE⟩
    obtain rfl : i = q - p := by omega
    rw [Nat.sub_self, wk_zero] at hw; rw [← hw]; rfl
set_option maxRecDepth 4000 in
set_option maxHeartbeats 1000000 in
theorem c181 (v : Value) (es : List Nm) (w : World) (hl : es.length ≤ 1000) (h : Ls cN w.heap.size w v es) : Calls Tryz.prog 121 [v].toArray w (Ret w (pubE es).v) := by
  refine enter Tryz.func121 Tryz.ntmps121 rfl rfl ?_
  have hE := Ext.refl w
  refine wp_seq ?_
  refine W_region ?_
  refine L (D_alloc (c := (Nm.zero).l) Tryz.zeroValue29 rfl (fun aB1_0 w1_0 e1_0 gB1_0 hB1_0 => ?_))
  have lB1_0 := Nat.le_trans hE.size gB1_0
  replace hE := hE.trans e1_0
  refine S_nil ?_
  refine T_tn ?_
  refine wp_seq ?_
  refine W_region ?_
  refine L (D_make0 (c := 144) elt5 Tryz.underlying32 rfl rfl (by (try simp only [List.length_take, List.length_drop, List.length_append, List.length_cons, List.length_nil, List.length_replicate, List.length_set, Nm.b_len, be2_len]); omega) (fun v2_0 w2_0 o2_0 e2_0 => ?_))
  replace o2_0 := o2_0.lo hE.size
  replace hE := hE.trans e2_0
  replace hB1_0 := hB1_0.ext e2_0
  refine L (D_v (R_assign rfl) ?_)
  refine S_nil ?_
  refine T_tn ?_
  refine wp_seq ?_
  refine wp_seq ?_
  refine W_region ?_
  refine L (D_v (R_move rfl) ?_)
  refine L (D_v (R_len Tryz.underlying22 rfl (h.ext hE).1) ?_)
  refine L (D_v (R_move rfl) ?_)
  refine S_nil ?_
  refine T_tn ?_
  refine wp_block ?_
  refine W_loop (fun mz g W => ∃ (b : List UInt8) (i : Nat) (r3 : Value), mz = es.length - i ∧ g 2 = .pointer (some ⟨aB1_0, 0, none⟩) ∧ g 3 = r3 ∧ g 7 = v ∧ g 8 = i64 (((es).length : Nat) : Int) ∧ g 9 = i64 ((i : Nat) : Int) ∧ Ext w W ∧ Blk W aB1_0 (Nm.zero).l 29 ∧ OwnB W w.heap.size r3 b ∧ i ≤ es.length ∧ b = (es.take i).flatMap Nm.b) ⟨[], 0, _, rfl, rfl, rfl, rfl, rfl, rfl, hE, hB1_0, o2_0, (Nat.zero_le _), rfl⟩ ?_
  rintro mz f4 w4l ⟨b, i, r3, hm, q2, q3, q7, q8, q9, hE, hB1_0, or3, hi, hb⟩
  have hbl : b.length ≤ es.length * 8 := by rw [hb, flat_len, List.length_take]; omega
  refine wp_seq ?_
  refine W_region ?_
  refine L (D_v (R_lssI q9 q8) ?_)
  refine S_nil ?_
  refine T_tn ?_
  refine wp_seq ?_
  refine W_if rfl (fun c1 => ?_) (fun c1 => ?_)
  ·
    have lk : i < es.length := by simpa using c1
    refine wp_skip ?_
    refine T_tn ?_
    refine wp_seq ?_
    refine wp_block ?_
    refine wp_seq ?_
    refine W_region ?_
    refine L (D_v (R_elAddr (i := i) Tryz.underlying22 Tryz.sizeOf29 q7 q9 (h.ext hE).1 (by (try simp only [List.length_take, List.length_drop, List.length_append, List.length_cons, List.length_nil, List.length_replicate, List.length_set, Nm.b_len, be2_len]); omega)) ?_)
    refine L (D_v (R_ldL (C := cN) (i := i) (y := ((es).getD (i) Nm.zero)) Tryz.isAgg29 Tryz.sizeOf29 rfl (h.ext hE) (getD_some (d := Nm.zero) (by (try simp only [List.length_take, List.length_drop, List.length_append, List.length_cons, List.length_nil, List.length_replicate, List.length_set, Nm.b_len, be2_len]); omega))) ?_)
    refine L (D_alloc (c := (Nm.zero).l) Tryz.zeroValue29 rfl (fun aB6_2 w6_2 e6_2 gB6_2 hB6_2 => ?_))
    have lB6_2 := Nat.le_trans hE.size gB6_2
    have nB1_0B6_2 := hB1_0.ne gB6_2
    replace hE := hE.trans e6_2
    replace hB1_0 := hB1_0.ext e6_2
    replace or3 := or3.ext e6_2
    have xor3 := own_neB or3 hB6_2 rfl
    have h0 := hB6_2
    refine L (D_storeA Tryz.sizeOf29 hB6_2 rfl rfl rfl rfl rfl (l' := (((es).getD (i) Nm.zero)).l) rfl (fun w6_3 k6_3 hB6_2 => ?_))
    replace hE := hE.kp k6_3 lB6_2
    replace hB1_0 := hB1_0.kp k6_3 nB1_0B6_2
    replace or3 := or3.kp k6_3 xor3
    refine S_nil ?_
    refine T_tn ?_
    refine W_region ?_
    refine L (D_v (R_move q3) ?_)
    refine L (D_v (R_sliceArr (len := 7) Tryz.underlying29 Tryz.sizeOf5 rfl) ?_)
    refine L (D_appendB elt5 Tryz.underlying32 rfl rfl or3 (hB6_2.bs 0 (((es).getD (i) Nm.zero)).b rfl rfl rfl) (by (try simp only [List.length_take, List.length_drop, List.length_append, List.length_cons, List.length_nil, List.length_replicate, List.length_set, Nm.b_len, be2_len]); omega) hE.size (fun v7_2 w7_2 o7_2 g7_2 => ?_))
    replace hE := hE.grown g7_2 (fun k hk => own_ge or3 hk)
    replace hB1_0 := hB1_0.grown g7_2 (own_neB or3 hB1_0 rfl)
    replace hB6_2 := hB6_2.grown g7_2 (own_neB or3 hB6_2 rfl)
    refine L (D_v (R_assign rfl) ?_)
    refine S_nil ?_
    refine T_bn ?_
    refine T_tn ?_
    refine W_region ?_
    refine L (D_v (R_addN (m := i) (j := 1) q9 rfl (by (try simp only [List.length_take, List.length_drop, List.length_append, List.length_cons, List.length_nil, List.length_replicate, List.length_set, Nm.b_len, be2_len]); omega)) ?_)
    refine L (D_v (R_move rfl) ?_)
    refine S_nil ?_
    refine T_tn ?_
    refine ⟨_, _, ?_, rfl, _, i + 1, _, rfl, q2, rfl, q7, q8, rfl, hE, hB1_0, o7_2, ?_, ?_⟩
    all_goals first | omega | exact flat_next hb (getD_some lk)
  ·
    have lk : ¬ i < es.length := by simpa using c1
    refine wp_exit ?_
    refine T_te ?_
    refine T_te ?_
    refine T_be ?_
    refine T_tn ?_
    refine wp_seq ?_
    refine W_region ?_
    refine L (D_v (R_move q3) ?_)
    refine L (D_call (R_callF Tryz.call70 rfl rfl) (c37 (34) r3 (b) _ or3.bs (by (try simp only [List.length_take, List.length_drop, List.length_append, List.length_cons, List.length_nil, List.length_replicate, List.length_set, Nm.b_len, be2_len]); omega)) (fun w6_1 e6_1 => ?_))
    replace hE := hE.trans e6_1
    replace hB1_0 := hB1_0.ext e6_1
    replace or3 := or3.ext e6_1
    have xor3 := own_neB or3 hB1_0 rfl
    have h0 := hB1_0
    refine L (D_storeA Tryz.sizeOf29 hB1_0 q2 rfl rfl rfl rfl (l' := ((hashB (34 :: b))).l) rfl (fun w6_2 k6_2 hB1_0 => ?_))
    replace hE := hE.kp k6_2 lB1_0
    replace or3 := or3.kp k6_2 xor3
    refine S_nil ?_
    refine T_tn ?_
    refine wp_ret ?_
    refine retc (c := ((hashB (34 :: b))).l) rfl q2 Tryz.isAgg29 Tryz.sizeOf29 hB1_0 rfl rfl ⟨?_, hE⟩
    rw [List.take_of_length_le (by omega)] at hb; subst hb; rfl
set_option maxRecDepth 4000 in
set_option maxHeartbeats 1000000 in
theorem c174 (v : Value) (es : List Nm) (w : World) (hl : es.length ≤ 1000) (h : Ls cN w.heap.size w v es) : Calls Tryz.prog 92 [v].toArray w (Ret w (pubE es).v) := by
  refine enter Tryz.func92 Tryz.ntmps92 rfl rfl ?_
  have hE := Ext.refl w
  refine wp_seq ?_
  refine W_region ?_
  refine L (D_alloc (c := (Nm.zero).l) Tryz.zeroValue29 rfl (fun aB1_0 w1_0 e1_0 gB1_0 hB1_0 => ?_))
  have lB1_0 := Nat.le_trans hE.size gB1_0
  replace hE := hE.trans e1_0
  refine S_nil ?_
  refine T_tn ?_
  refine wp_seq ?_
  refine W_region ?_
  refine L (D_v (R_assign rfl) ?_)
  refine S_nil ?_
  refine T_tn ?_
  refine wp_seq ?_
  refine wp_seq ?_
  refine W_region ?_
  refine L (D_v (R_assign rfl) ?_)
  refine S_nil ?_
  refine T_tn ?_
  refine wp_block ?_
  refine W_loop (fun mz g W => ∃ (b : List UInt8) (i : Nat) (r3 : Value), mz = es.length - i ∧ g 0 = v ∧ g 2 = .pointer (some ⟨aB1_0, 0, none⟩) ∧ g 3 = r3 ∧ g 4 = i64 ((i : Nat) : Int) ∧ Ext w W ∧ Blk W aB1_0 (Nm.zero).l 29 ∧ OwnB W w.heap.size r3 b ∧ i ≤ es.length ∧ b = (es.take i).flatMap Nm.b) ⟨[], 0, _, rfl, rfl, rfl, rfl, rfl, hE, hB1_0, (OwnB.nil _ _), (Nat.zero_le _), rfl⟩ ?_
  rintro mz f4 w4l ⟨b, i, r3, hm, q0, q2, q3, q4, hE, hB1_0, or3, hi, hb⟩
  have hbl : b.length ≤ es.length * 8 := by rw [hb, flat_len, List.length_take]; omega
  refine wp_seq ?_
  refine wp_seq ?_
  refine W_region ?_
  refine L (D_v (R_move q4) ?_)
  refine L (D_v (R_move q0) ?_)
  refine L (D_v (R_len Tryz.underlying22 rfl (h.ext hE).1) ?_)
  refine L (D_v (R_lssI rfl rfl) ?_)
  refine S_nil ?_
  refine T_tn ?_
  refine W_if rfl (fun c1 => ?_) (fun c1 => ?_)
  ·
    have lk : i < es.length := by simpa using c1
    refine wp_skip ?_
    refine T_tn ?_
    refine wp_seq ?_
    refine wp_block ?_
    refine W_region ?_
    refine L (D_v (R_move q3) ?_)
    refine L (D_v (R_move q0) ?_)
    refine L (D_v (R_move q4) ?_)
    refine L (D_v (R_elAddr (i := i) Tryz.underlying22 Tryz.sizeOf29 rfl rfl (h.ext hE).1 (by (try simp only [List.length_take, List.length_drop, List.length_append, List.length_cons, List.length_nil, List.length_replicate, List.length_set, Nm.b_len, be2_len]); omega)) ?_)
    refine L (D_v (R_sliceEl (len := 7) (k := i * 8) Tryz.underlying29 Tryz.sizeOf5 (h.ext hE).1 (lel_lt (C := cN) (k := 0) (getD_some (d := Nm.zero) (by (try simp only [List.length_take, List.length_drop, List.length_append, List.length_cons, List.length_nil, List.length_replicate, List.length_set, Nm.b_len, be2_len]); omega)) (by decide)) rfl) ?_)
    refine L (D_appendB elt5 Tryz.underlying32 rfl rfl or3 ((h.ext hE).bs (getD_some (d := Nm.zero) (by (try simp only [List.length_take, List.length_drop, List.length_append, List.length_cons, List.length_nil, List.length_replicate, List.length_set, Nm.b_len, be2_len]); omega))) (by (try simp only [List.length_take, List.length_drop, List.length_append, List.length_cons, List.length_nil, List.length_replicate, List.length_set, Nm.b_len, be2_len]); omega) hE.size (fun v6_5 w6_5 o6_5 g6_5 => ?_))
    replace hE := hE.grown g6_5 (fun k hk => own_ge or3 hk)
    replace hB1_0 := hB1_0.grown g6_5 (own_neB or3 hB1_0 rfl)
    refine L (D_v (R_assign rfl) ?_)
    refine S_nil ?_
    refine T_bn ?_
    refine T_tn ?_
    refine W_region ?_
    refine L (D_v (R_move q4) ?_)
    refine L (D_v (R_addN (m := i) (j := 1) rfl rfl (by (try simp only [List.length_take, List.length_drop, List.length_append, List.length_cons, List.length_nil, List.length_replicate, List.length_set, Nm.b_len, be2_len]); omega)) ?_)
    refine L (D_v (R_assign rfl) ?_)
    refine S_nil ?_
    refine T_tn ?_
    refine ⟨_, _, ?_, rfl, _, i + 1, _, rfl, q0, q2, rfl, rfl, hE, hB1_0, o6_5, ?_, ?_⟩
    all_goals first | omega | exact flat_next hb (getD_some lk)
  ·
    have lk : ¬ i < es.length := by simpa using c1
    refine wp_exit ?_
    refine T_te ?_
    refine T_te ?_
    refine T_be ?_
    refine T_tn ?_
    refine wp_seq ?_
    refine W_region ?_
    refine L (D_v (R_move q3) ?_)
    refine L (D_call (R_callF Tryz.call60 rfl rfl) (c88 (34) r3 (b) _ or3.bs (by (try simp only [List.length_take, List.length_drop, List.length_append, List.length_cons, List.length_nil, List.length_replicate, List.length_set, Nm.b_len, be2_len]); omega)) (fun w6_1 e6_1 => ?_))
    replace hE := hE.trans e6_1
    replace hB1_0 := hB1_0.ext e6_1
    replace or3 := or3.ext e6_1
    have xor3 := own_neB or3 hB1_0 rfl
    have h0 := hB1_0
    refine L (D_storeA Tryz.sizeOf29 hB1_0 q2 rfl rfl rfl rfl (l' := ((hashB (34 :: b))).l) rfl (fun w6_2 k6_2 hB1_0 => ?_))
    replace hE := hE.kp k6_2 lB1_0
    replace or3 := or3.kp k6_2 xor3
    refine S_nil ?_
    refine T_tn ?_
    refine wp_ret ?_
    refine retc (c := ((hashB (34 :: b))).l) rfl q2 Tryz.isAgg29 Tryz.sizeOf29 hB1_0 rfl rfl ⟨?_, hE⟩
    rw [List.take_of_length_le (by omega)] at hb; subst hb; rfl
set_option maxRecDepth 4000 in
set_option maxHeartbeats 1000000 in
theorem c165 (v : Value) (b : List UInt8) (o n : Nat) (w : World) (h : Bs w v b) (hn : n ≤ 100) (ho : o ≤ 1000000) (hb : o + n * 8 ≤ b.length) : Calls Tryz.prog 95 [v, i64 ((o : Nat) : Int), i64 ((n : Nat) : Int)].toArray w (RetE w fun r w' => Ow cN w.heap.size w.heap.size w' r (nmsAt b o n)) := by
  refine enter Tryz.func95 Tryz.ntmps95 rfl rfl ?_
  have hE := Ext.refl w
  refine wp_seq ?_
  refine W_region ?_
  refine L (D_v (R_assign rfl) ?_)
  refine S_nil ?_
  refine T_tn ?_
  refine wp_seq ?_
  refine W_region ?_
  refine L (D_v (R_move rfl) ?_)
  refine L (D_makeL (C := cN) (lo := w.heap.size) (l := n) (c := n) mk24 Tryz.underlying22 rfl rfl (by (try simp only [List.length_take, List.length_drop, List.length_append, List.length_cons, List.length_nil, List.length_replicate, List.length_set, Nm.b_len, be2_len]); omega) (by (try simp only [List.length_take, List.length_drop, List.length_append, List.length_cons, List.length_nil, List.length_replicate, List.length_set, Nm.b_len, be2_len]); omega) (by (try simp only [List.length_take, List.length_drop, List.length_append, List.length_cons, List.length_nil, List.length_replicate, List.length_set, Nm.b_len, be2_len]); omega) (fun v2_1 w2_1 o2_1 e2_1 => ?_))
  replace o2_1 := o2_1.low hE.size
  replace hE := hE.trans e2_1
  refine L (D_v (R_assign rfl) ?_)
  refine S_nil ?_
  refine T_tn ?_
  refine wp_seq ?_
  refine wp_seq ?_
  refine W_region ?_
  refine L (D_v (R_move rfl) ?_)
  refine L (D_v (R_len Tryz.underlying22 rfl o2_1.ls.1) ?_)
  refine L (D_v (R_move rfl) ?_)
  refine S_nil ?_
  refine T_tn ?_
  refine wp_block ?_
  refine W_loop (fun mz g W => ∃ (es : List Nm) (i : Nat), mz = n - i ∧ g 0 = v ∧ g 1 = i64 ((o : Nat) : Int) ∧ g 7 = v2_1 ∧ g 12 = i64 ((((List.replicate n Nm.zero)).length : Nat) : Int) ∧ g 13 = i64 ((i : Nat) : Int) ∧ Ext w W ∧ Ow cN w.heap.size w.heap.size W v2_1 es ∧ i ≤ n ∧ es.length = n ∧ es.take i = (nmsAt b o n).take i) ⟨_, 0, rfl, rfl, rfl, rfl, rfl, rfl, hE, o2_1, (Nat.zero_le _), (by simp), (by simp)⟩ ?_
  rintro mz f4 w4l ⟨es, i, hm, q0, q1, q7, q12, q13, hE, ov2_1, hi, hl, ht⟩
  refine wp_seq ?_
  refine W_region ?_
  refine L (D_v (R_lssI q13 q12) ?_)
  refine S_nil ?_
  refine T_tn ?_
  refine wp_seq ?_
  refine W_if rfl (fun c1 => ?_) (fun c1 => ?_)
  ·
    have lk : i < n := by simp at c1; omega
    refine wp_skip ?_
    refine T_tn ?_
    refine wp_seq ?_
    refine wp_block ?_
    refine wp_seq ?_
    refine W_region ?_
    refine L (D_v (R_move q13) ?_)
    refine L (D_v (R_assign rfl) ?_)
    refine S_nil ?_
    refine T_tn ?_
    refine W_tail 10 mixed (by kernel_rfl) (fun w7_99 e7_99 => ?_)
    replace hE := hE.trans e7_99
    replace ov2_1 := ov2_1.ext e7_99
    refine T_v (R_move q7) ?_
    refine T_v (R_move rfl) ?_
    refine T_v (R_elAddr (i := i) Tryz.underlying22 Tryz.sizeOf29 rfl rfl ov2_1.ls.1 (by (try simp only [List.length_take, List.length_drop, List.length_append, List.length_cons, List.length_nil, List.length_replicate, List.length_set, Nm.b_len, be2_len]); omega)) ?_
    refine T_v (R_sliceEl (len := 7) (k := i * 8) Tryz.underlying29 Tryz.sizeOf5 ov2_1.ls.1 (lel_lt (C := cN) (k := 0) (getD_some (d := Nm.zero) (by (try simp only [List.length_take, List.length_drop, List.length_append, List.length_cons, List.length_nil, List.length_replicate, List.length_set, Nm.b_len, be2_len]); omega)) (by decide)) rfl) ?_
    refine T_v (R_move q0) ?_
    refine T_v (R_move q1) ?_
    refine T_v (R_move rfl) ?_
    refine T_v (R_mulN (m := i) (j := 8) rfl rfl (by (try simp only [List.length_take, List.length_drop, List.length_append, List.length_cons, List.length_nil, List.length_replicate, List.length_set, Nm.b_len, be2_len]); omega)) ?_
    refine T_v (R_addN (m := o) (j := (i * 8)) rfl rfl (by (try simp only [List.length_take, List.length_drop, List.length_append, List.length_cons, List.length_nil, List.length_replicate, List.length_set, Nm.b_len, be2_len]); omega)) ?_
    refine T_v (R_sliceLo (i := (o + (i * 8))) Tryz.underlying32 Tryz.sizeOf5 rfl rfl (h.ext hE) (by (try simp only [List.length_take, List.length_drop, List.length_append, List.length_cons, List.length_nil, List.length_replicate, List.length_set, Nm.b_len, be2_len]); omega)) ?_
    refine T_nil ?_
    refine L (D_copyEl (i := i) Tryz.underlying32 Tryz.sizeOf5 rfl rfl ov2_1 (Nat.le_refl _) (by (try simp only [List.length_take, List.length_drop, List.length_append, List.length_cons, List.length_nil, List.length_replicate, List.length_set, Nm.b_len, be2_len]); omega) ((h.ext hE).cut (by (try simp only [List.length_take, List.length_drop, List.length_append, List.length_cons, List.length_nil, List.length_replicate, List.length_set, Nm.b_len, be2_len]); omega) (by (try simp only [List.length_take, List.length_drop, List.length_append, List.length_cons, List.length_nil, List.length_replicate, List.length_set, Nm.b_len, be2_len]); omega)) (by (try simp only [List.length_take, List.length_drop, List.length_append, List.length_cons, List.length_nil, List.length_replicate, List.length_set, Nm.b_len, be2_len]); omega) (fun r7_10 w7_10 o7_10 g7_10 f7_10 => ?_))
    replace hE := hE.grown g7_10 (fun k hk => own_ge ov2_1.1 hk)
    refine S_nil ?_
    refine T_bn ?_
    refine T_tn ?_
    refine W_region ?_
    refine L (D_v (R_addN (m := i) (j := 1) q13 rfl (by (try simp only [List.length_take, List.length_drop, List.length_append, List.length_cons, List.length_nil, List.length_replicate, List.length_set, Nm.b_len, be2_len]); omega)) ?_)
    refine L (D_v (R_move rfl) ?_)
    refine S_nil ?_
    refine T_tn ?_
    refine ⟨_, _, ?_, rfl, _, i + 1, rfl, q0, q1, q7, q12, rfl, hE, o7_10, ?_, ?_, ?_⟩
    all_goals first | omega | (simp only [List.length_set]; exact hl) | (rw [nmAt_cut (by omega) (by omega)]; exact fill_next ht (by omega) (nmsAt_at b o n lk))
  ·
    have lk : ¬ i < n := by simp at c1; omega
    refine wp_exit ?_
    refine T_te ?_
    refine T_te ?_
    refine T_be ?_
    refine T_tn ?_
    refine wp_seq ?_
    refine W_region ?_
    refine L (D_v (R_move q7) ?_)
    refine L (D_v (R_assign rfl) ?_)
    refine S_nil ?_
    refine T_tn ?_
    refine wp_ret ?_
    refine ret1 (v := v2_1) rfl rfl ⟨_, rfl, hE, ?_⟩
    obtain rfl : i = n := by omega
    rw [← fill_all ht (by omega) (by rw [nmsAt_len]; omega)]
    exact ov2_1
set_option maxRecDepth 4000 in
set_option maxHeartbeats 2000000 in
theorem c183 (v : Value) (b : List UInt8) (o : Nat) (O W : Int) (w : World) (hO : O = ((o : Nat) : Int)) (hW : W = 8) (h : Bs w v b) (ho : o ≤ 1000000) (hb : o + 8 ≤ b.length) : Calls Tryz.prog 98 [v, i64 O, i64 W].toArray w (Ret w (.tuple #[.int .u64 (num (nmAt b o)), .bool true])) := by
  refine enter Tryz.func98 Tryz.ntmps98 rfl rfl ?_
  have hE := Ext.refl w
  have hbb := h.le
  refine wp_seq ?_
  refine W_region ?_
  refine L (D_v (R_assign rfl) ?_)
  refine L (D_v (R_assign rfl) ?_)
  refine S_nil ?_
  refine T_tn ?_
  refine wp_seq ?_
  refine wp_seq ?_
  refine W_region ?_
  refine L (D_v (R_move rfl) ?_)
  refine L (D_v (R_lssI rfl rfl) ?_)
  refine L (D_v (R_move rfl) ?_)
  refine L (D_g1 rfl rfl (fun hb => R_move rfl) ?_)
  refine L (D_g1 rfl rfl (fun hb => R_gtrI (cgE hb) rfl) ?_)
  refine L (D_v (R_pickO rfl rfl rfl) ?_)
  refine L (D_v (R_move rfl) ?_)
  refine L (D_g1 rfl rfl (fun hb => R_move rfl) ?_)
  refine L (D_g1 rfl rfl (fun hb => R_lssI (cgE hb) rfl) ?_)
  refine L (D_v (R_pickO rfl rfl rfl) ?_)
  refine L (D_v (R_move rfl) ?_)
  refine L (D_g1 rfl rfl (fun hb => R_move rfl) ?_)
  refine L (D_g1 rfl rfl (fun hb => R_move rfl) ?_)
  refine L (D_g1 rfl rfl (fun hb => R_len Tryz.underlying32 (cgE hb) (h.ext hE)) ?_)
  refine L (D_g1 rfl rfl (fun hb => R_move rfl) ?_)
  refine L (D_g1 rfl rfl (fun hb => R_subI (cgE hb) (cgE hb)) ?_)
  refine L (D_g1 rfl rfl (fun hb => R_gtrI (cgE hb) (cgE hb)) ?_)
  refine L (D_v (R_pickO rfl rfl rfl) ?_)
  refine S_nil ?_
  refine T_tn ?_
  refine W_if rfl (fun c1 => ?_) (fun c1 => ?_)
  ·
    subst hW hO
    exfalso; revert c1; generalize b.length = m at *; simp [IntKind.wrap_i64]; omega
  ·
    subst hW hO
    refine wp_skip ?_
    refine T_tn ?_
    refine wp_seq ?_
    refine W_region ?_
    refine L (D_v (R_assign rfl) ?_)
    refine S_nil ?_
    refine T_tn ?_
    refine wp_seq ?_
    refine wp_seq ?_
    refine W_region ?_
    refine L (D_v (R_assign rfl) ?_)
    refine S_nil ?_
    refine T_tn ?_
    refine wp_block ?_
    refine W_unroll 8 ?_
    refine W_round ?_
    refine wp_seq ?_
    refine wp_seq ?_
    refine W_region ?_
    refine L (D_v (R_move rfl) ?_)
    refine L (D_v (R_move rfl) ?_)
    refine L (D_v (R_cast (v' := .bool true) (R_lssI rfl rfl) rfl) ?_)
    refine S_nil ?_
    refine T_tn ?_
    refine W_ift rfl ?_
    refine wp_skip ?_
    refine T_tn ?_
    refine wp_seq ?_
    refine wp_block ?_
    refine W_region ?_
    refine L (D_v (R_move rfl) ?_)
    refine L (D_v (R_shlC (z := 8) rfl rfl (by decide) (by decide)) ?_)
    refine L (D_v (R_move rfl) ?_)
    refine L (D_v (R_move rfl) ?_)
    refine L (D_v (R_move rfl) ?_)
    refine L (D_v (R_addN (m := o) (j := 0) rfl rfl (by (try simp only [List.length_take, List.length_drop, List.length_append, List.length_cons, List.length_nil, List.length_replicate, List.length_set, Nm.b_len, be2_len]); omega)) ?_)
    refine L (D_v (R_elAddr (i := (o + 0)) Tryz.underlying32 Tryz.sizeOf5 rfl rfl (h.ext hE) (by (try simp only [List.length_take, List.length_drop, List.length_append, List.length_cons, List.length_nil, List.length_replicate, List.length_set, Nm.b_len, be2_len]); omega)) ?_)
    refine L (D_v (R_loadEl (u := u8 (((b).getD (o + 0) 0))) Tryz.isAgg5 rfl (h.ext hE) (bl_get (by (try simp only [List.length_take, List.length_drop, List.length_append, List.length_cons, List.length_nil, List.length_replicate, List.length_set, Nm.b_len, be2_len]); omega))) ?_)
    refine L (D_v (R_convU (b := ((b).getD (o + 0) 0)) Tryz.runUnderlying45 (by decide) rfl) ?_)
    refine L (D_v (R_orI rfl rfl) ?_)
    refine L (D_v (R_assign rfl) ?_)
    refine S_nil ?_
    refine T_bn ?_
    refine T_tn ?_
    refine W_region ?_
    refine L (D_v (R_move rfl) ?_)
    refine L (D_v (R_cast (v' := .int .i64 (1)) (R_addI rfl rfl) rfl) ?_)
    refine L (D_v (R_assign rfl) ?_)
    refine S_nil ?_
    refine T_tn ?_
    refine W_round ?_
    refine wp_seq ?_
    refine wp_seq ?_
    refine W_region ?_
    refine L (D_v (R_move rfl) ?_)
    refine L (D_v (R_move rfl) ?_)
    refine L (D_v (R_cast (v' := .bool true) (R_lssI rfl rfl) rfl) ?_)
    refine S_nil ?_
    refine T_tn ?_
    refine W_ift rfl ?_
    refine wp_skip ?_
    refine T_tn ?_
    refine wp_seq ?_
    refine wp_block ?_
    refine W_region ?_
    refine L (D_v (R_move rfl) ?_)
    refine L (D_v (R_shlC (z := 8) rfl rfl (by decide) (by decide)) ?_)
    refine L (D_v (R_move rfl) ?_)
    refine L (D_v (R_move rfl) ?_)
    refine L (D_v (R_move rfl) ?_)
    refine L (D_v (R_addN (m := o) (j := 1) rfl rfl (by (try simp only [List.length_take, List.length_drop, List.length_append, List.length_cons, List.length_nil, List.length_replicate, List.length_set, Nm.b_len, be2_len]); omega)) ?_)
    refine L (D_v (R_elAddr (i := (o + 1)) Tryz.underlying32 Tryz.sizeOf5 rfl rfl (h.ext hE) (by (try simp only [List.length_take, List.length_drop, List.length_append, List.length_cons, List.length_nil, List.length_replicate, List.length_set, Nm.b_len, be2_len]); omega)) ?_)
    refine L (D_v (R_loadEl (u := u8 (((b).getD (o + 1) 0))) Tryz.isAgg5 rfl (h.ext hE) (bl_get (by (try simp only [List.length_take, List.length_drop, List.length_append, List.length_cons, List.length_nil, List.length_replicate, List.length_set, Nm.b_len, be2_len]); omega))) ?_)
    refine L (D_v (R_convU (b := ((b).getD (o + 1) 0)) Tryz.runUnderlying45 (by decide) rfl) ?_)
    refine L (D_v (R_orI rfl rfl) ?_)
    refine L (D_v (R_assign rfl) ?_)
    refine S_nil ?_
    refine T_bn ?_
    refine T_tn ?_
    refine W_region ?_
    refine L (D_v (R_move rfl) ?_)
    refine L (D_v (R_cast (v' := .int .i64 (2)) (R_addI rfl rfl) rfl) ?_)
    refine L (D_v (R_assign rfl) ?_)
    refine S_nil ?_
    refine T_tn ?_
    refine W_round ?_
    refine wp_seq ?_
    refine wp_seq ?_
    refine W_region ?_
    refine L (D_v (R_move rfl) ?_)
    refine L (D_v (R_move rfl) ?_)
    refine L (D_v (R_cast (v' := .bool true) (R_lssI rfl rfl) rfl) ?_)
    refine S_nil ?_
    refine T_tn ?_
    refine W_ift rfl ?_
    refine wp_skip ?_
    refine T_tn ?_
    refine wp_seq ?_
    refine wp_block ?_
    refine W_region ?_
    refine L (D_v (R_move rfl) ?_)
    refine L (D_v (R_shlC (z := 8) rfl rfl (by decide) (by decide)) ?_)
    refine L (D_v (R_move rfl) ?_)
    refine L (D_v (R_move rfl) ?_)
    refine L (D_v (R_move rfl) ?_)
    refine L (D_v (R_addN (m := o) (j := 2) rfl rfl (by (try simp only [List.length_take, List.length_drop, List.length_append, List.length_cons, List.length_nil, List.length_replicate, List.length_set, Nm.b_len, be2_len]); omega)) ?_)
    refine L (D_v (R_elAddr (i := (o + 2)) Tryz.underlying32 Tryz.sizeOf5 rfl rfl (h.ext hE) (by (try simp only [List.length_take, List.length_drop, List.length_append, List.length_cons, List.length_nil, List.length_replicate, List.length_set, Nm.b_len, be2_len]); omega)) ?_)
    refine L (D_v (R_loadEl (u := u8 (((b).getD (o + 2) 0))) Tryz.isAgg5 rfl (h.ext hE) (bl_get (by (try simp only [List.length_take, List.length_drop, List.length_append, List.length_cons, List.length_nil, List.length_replicate, List.length_set, Nm.b_len, be2_len]); omega))) ?_)
    refine L (D_v (R_convU (b := ((b).getD (o + 2) 0)) Tryz.runUnderlying45 (by decide) rfl) ?_)
    refine L (D_v (R_orI rfl rfl) ?_)
    refine L (D_v (R_assign rfl) ?_)
    refine S_nil ?_
    refine T_bn ?_
    refine T_tn ?_
    refine W_region ?_
    refine L (D_v (R_move rfl) ?_)
    refine L (D_v (R_cast (v' := .int .i64 (3)) (R_addI rfl rfl) rfl) ?_)
    refine L (D_v (R_assign rfl) ?_)
    refine S_nil ?_
    refine T_tn ?_
    refine W_round ?_
    refine wp_seq ?_
    refine wp_seq ?_
    refine W_region ?_
    refine L (D_v (R_move rfl) ?_)
    refine L (D_v (R_move rfl) ?_)
    refine L (D_v (R_cast (v' := .bool true) (R_lssI rfl rfl) rfl) ?_)
    refine S_nil ?_
    refine T_tn ?_
    refine W_ift rfl ?_
    refine wp_skip ?_
    refine T_tn ?_
    refine wp_seq ?_
    refine wp_block ?_
    refine W_region ?_
    refine L (D_v (R_move rfl) ?_)
    refine L (D_v (R_shlC (z := 8) rfl rfl (by decide) (by decide)) ?_)
    refine L (D_v (R_move rfl) ?_)
    refine L (D_v (R_move rfl) ?_)
    refine L (D_v (R_move rfl) ?_)
    refine L (D_v (R_addN (m := o) (j := 3) rfl rfl (by (try simp only [List.length_take, List.length_drop, List.length_append, List.length_cons, List.length_nil, List.length_replicate, List.length_set, Nm.b_len, be2_len]); omega)) ?_)
    refine L (D_v (R_elAddr (i := (o + 3)) Tryz.underlying32 Tryz.sizeOf5 rfl rfl (h.ext hE) (by (try simp only [List.length_take, List.length_drop, List.length_append, List.length_cons, List.length_nil, List.length_replicate, List.length_set, Nm.b_len, be2_len]); omega)) ?_)
    refine L (D_v (R_loadEl (u := u8 (((b).getD (o + 3) 0))) Tryz.isAgg5 rfl (h.ext hE) (bl_get (by (try simp only [List.length_take, List.length_drop, List.length_append, List.length_cons, List.length_nil, List.length_replicate, List.length_set, Nm.b_len, be2_len]); omega))) ?_)
    refine L (D_v (R_convU (b := ((b).getD (o + 3) 0)) Tryz.runUnderlying45 (by decide) rfl) ?_)
    refine L (D_v (R_orI rfl rfl) ?_)
    refine L (D_v (R_assign rfl) ?_)
    refine S_nil ?_
    refine T_bn ?_
    refine T_tn ?_
    refine W_region ?_
    refine L (D_v (R_move rfl) ?_)
    refine L (D_v (R_cast (v' := .int .i64 (4)) (R_addI rfl rfl) rfl) ?_)
    refine L (D_v (R_assign rfl) ?_)
    refine S_nil ?_
    refine T_tn ?_
    refine W_round ?_
    refine wp_seq ?_
    refine wp_seq ?_
    refine W_region ?_
    refine L (D_v (R_move rfl) ?_)
    refine L (D_v (R_move rfl) ?_)
    refine L (D_v (R_cast (v' := .bool true) (R_lssI rfl rfl) rfl) ?_)
    refine S_nil ?_
    refine T_tn ?_
    refine W_ift rfl ?_
    refine wp_skip ?_
    refine T_tn ?_
    refine wp_seq ?_
    refine wp_block ?_
    refine W_region ?_
    refine L (D_v (R_move rfl) ?_)
    refine L (D_v (R_shlC (z := 8) rfl rfl (by decide) (by decide)) ?_)
    refine L (D_v (R_move rfl) ?_)
    refine L (D_v (R_move rfl) ?_)
    refine L (D_v (R_move rfl) ?_)
    refine L (D_v (R_addN (m := o) (j := 4) rfl rfl (by (try simp only [List.length_take, List.length_drop, List.length_append, List.length_cons, List.length_nil, List.length_replicate, List.length_set, Nm.b_len, be2_len]); omega)) ?_)
    refine L (D_v (R_elAddr (i := (o + 4)) Tryz.underlying32 Tryz.sizeOf5 rfl rfl (h.ext hE) (by (try simp only [List.length_take, List.length_drop, List.length_append, List.length_cons, List.length_nil, List.length_replicate, List.length_set, Nm.b_len, be2_len]); omega)) ?_)
    refine L (D_v (R_loadEl (u := u8 (((b).getD (o + 4) 0))) Tryz.isAgg5 rfl (h.ext hE) (bl_get (by (try simp only [List.length_take, List.length_drop, List.length_append, List.length_cons, List.length_nil, List.length_replicate, List.length_set, Nm.b_len, be2_len]); omega))) ?_)
    refine L (D_v (R_convU (b := ((b).getD (o + 4) 0)) Tryz.runUnderlying45 (by decide) rfl) ?_)
    refine L (D_v (R_orI rfl rfl) ?_)
    refine L (D_v (R_assign rfl) ?_)
    refine S_nil ?_
    refine T_bn ?_
    refine T_tn ?_
    refine W_region ?_
    refine L (D_v (R_move rfl) ?_)
    refine L (D_v (R_cast (v' := .int .i64 (5)) (R_addI rfl rfl) rfl) ?_)
    refine L (D_v (R_assign rfl) ?_)
    refine S_nil ?_
    refine T_tn ?_
    refine W_round ?_
    refine wp_seq ?_
    refine wp_seq ?_
    refine W_region ?_
    refine L (D_v (R_move rfl) ?_)
    refine L (D_v (R_move rfl) ?_)
    refine L (D_v (R_cast (v' := .bool true) (R_lssI rfl rfl) rfl) ?_)
    refine S_nil ?_
    refine T_tn ?_
    refine W_ift rfl ?_
    refine wp_skip ?_
    refine T_tn ?_
    refine wp_seq ?_
    refine wp_block ?_
    refine W_region ?_
    refine L (D_v (R_move rfl) ?_)
    refine L (D_v (R_shlC (z := 8) rfl rfl (by decide) (by decide)) ?_)
    refine L (D_v (R_move rfl) ?_)
    refine L (D_v (R_move rfl) ?_)
    refine L (D_v (R_move rfl) ?_)
    refine L (D_v (R_addN (m := o) (j := 5) rfl rfl (by (try simp only [List.length_take, List.length_drop, List.length_append, List.length_cons, List.length_nil, List.length_replicate, List.length_set, Nm.b_len, be2_len]); omega)) ?_)
    refine L (D_v (R_elAddr (i := (o + 5)) Tryz.underlying32 Tryz.sizeOf5 rfl rfl (h.ext hE) (by (try simp only [List.length_take, List.length_drop, List.length_append, List.length_cons, List.length_nil, List.length_replicate, List.length_set, Nm.b_len, be2_len]); omega)) ?_)
    refine L (D_v (R_loadEl (u := u8 (((b).getD (o + 5) 0))) Tryz.isAgg5 rfl (h.ext hE) (bl_get (by (try simp only [List.length_take, List.length_drop, List.length_append, List.length_cons, List.length_nil, List.length_replicate, List.length_set, Nm.b_len, be2_len]); omega))) ?_)
    refine L (D_v (R_convU (b := ((b).getD (o + 5) 0)) Tryz.runUnderlying45 (by decide) rfl) ?_)
    refine L (D_v (R_orI rfl rfl) ?_)
    refine L (D_v (R_assign rfl) ?_)
    refine S_nil ?_
    refine T_bn ?_
    refine T_tn ?_
    refine W_region ?_
    refine L (D_v (R_move rfl) ?_)
    refine L (D_v (R_cast (v' := .int .i64 (6)) (R_addI rfl rfl) rfl) ?_)
    refine L (D_v (R_assign rfl) ?_)
    refine S_nil ?_
    refine T_tn ?_
    refine W_round ?_
    refine wp_seq ?_
    refine wp_seq ?_
    refine W_region ?_
    refine L (D_v (R_move rfl) ?_)
    refine L (D_v (R_move rfl) ?_)
    refine L (D_v (R_cast (v' := .bool true) (R_lssI rfl rfl) rfl) ?_)
    refine S_nil ?_
    refine T_tn ?_
    refine W_ift rfl ?_
    refine wp_skip ?_
    refine T_tn ?_
    refine wp_seq ?_
    refine wp_block ?_
    refine W_region ?_
    refine L (D_v (R_move rfl) ?_)
    refine L (D_v (R_shlC (z := 8) rfl rfl (by decide) (by decide)) ?_)
    refine L (D_v (R_move rfl) ?_)
    refine L (D_v (R_move rfl) ?_)
    refine L (D_v (R_move rfl) ?_)
    refine L (D_v (R_addN (m := o) (j := 6) rfl rfl (by (try simp only [List.length_take, List.length_drop, List.length_append, List.length_cons, List.length_nil, List.length_replicate, List.length_set, Nm.b_len, be2_len]); omega)) ?_)
    refine L (D_v (R_elAddr (i := (o + 6)) Tryz.underlying32 Tryz.sizeOf5 rfl rfl (h.ext hE) (by (try simp only [List.length_take, List.length_drop, List.length_append, List.length_cons, List.length_nil, List.length_replicate, List.length_set, Nm.b_len, be2_len]); omega)) ?_)
    refine L (D_v (R_loadEl (u := u8 (((b).getD (o + 6) 0))) Tryz.isAgg5 rfl (h.ext hE) (bl_get (by (try simp only [List.length_take, List.length_drop, List.length_append, List.length_cons, List.length_nil, List.length_replicate, List.length_set, Nm.b_len, be2_len]); omega))) ?_)
    refine L (D_v (R_convU (b := ((b).getD (o + 6) 0)) Tryz.runUnderlying45 (by decide) rfl) ?_)
    refine L (D_v (R_orI rfl rfl) ?_)
    refine L (D_v (R_assign rfl) ?_)
    refine S_nil ?_
    refine T_bn ?_
    refine T_tn ?_
    refine W_region ?_
    refine L (D_v (R_move rfl) ?_)
    refine L (D_v (R_cast (v' := .int .i64 (7)) (R_addI rfl rfl) rfl) ?_)
    refine L (D_v (R_assign rfl) ?_)
    refine S_nil ?_
    refine T_tn ?_
    refine W_round ?_
    refine wp_seq ?_
    refine wp_seq ?_
    refine W_region ?_
    refine L (D_v (R_move rfl) ?_)
    refine L (D_v (R_move rfl) ?_)
    refine L (D_v (R_cast (v' := .bool true) (R_lssI rfl rfl) rfl) ?_)
    refine S_nil ?_
    refine T_tn ?_
    refine W_ift rfl ?_
    refine wp_skip ?_
    refine T_tn ?_
    refine wp_seq ?_
    refine wp_block ?_
    refine W_region ?_
    refine L (D_v (R_move rfl) ?_)
    refine L (D_v (R_shlC (z := 8) rfl rfl (by decide) (by decide)) ?_)
    refine L (D_v (R_move rfl) ?_)
    refine L (D_v (R_move rfl) ?_)
    refine L (D_v (R_move rfl) ?_)
    refine L (D_v (R_addN (m := o) (j := 7) rfl rfl (by (try simp only [List.length_take, List.length_drop, List.length_append, List.length_cons, List.length_nil, List.length_replicate, List.length_set, Nm.b_len, be2_len]); omega)) ?_)
    refine L (D_v (R_elAddr (i := (o + 7)) Tryz.underlying32 Tryz.sizeOf5 rfl rfl (h.ext hE) (by (try simp only [List.length_take, List.length_drop, List.length_append, List.length_cons, List.length_nil, List.length_replicate, List.length_set, Nm.b_len, be2_len]); omega)) ?_)
    refine L (D_v (R_loadEl (u := u8 (((b).getD (o + 7) 0))) Tryz.isAgg5 rfl (h.ext hE) (bl_get (by (try simp only [List.length_take, List.length_drop, List.length_append, List.length_cons, List.length_nil, List.length_replicate, List.length_set, Nm.b_len, be2_len]); omega))) ?_)
    refine L (D_v (R_convU (b := ((b).getD (o + 7) 0)) Tryz.runUnderlying45 (by decide) rfl) ?_)
    refine L (D_v (R_orI rfl rfl) ?_)
    refine L (D_v (R_assign rfl) ?_)
    refine S_nil ?_
    refine T_bn ?_
    refine T_tn ?_
    refine W_region ?_
    refine L (D_v (R_move rfl) ?_)
    refine L (D_v (R_cast (v' := .int .i64 (8)) (R_addI rfl rfl) rfl) ?_)
    refine L (D_v (R_assign rfl) ?_)
    refine S_nil ?_
    refine T_tn ?_
    refine W_round ?_
    refine wp_seq ?_
    refine wp_seq ?_
    refine W_region ?_
    refine L (D_v (R_move rfl) ?_)
    refine L (D_v (R_move rfl) ?_)
    refine L (D_v (R_cast (v' := .bool false) (R_lssI rfl rfl) rfl) ?_)
    refine S_nil ?_
    refine T_tn ?_
    refine W_iff rfl ?_
    refine wp_exit ?_
    refine T_te ?_
    refine T_te ?_
    refine T_be ?_
    refine T_tn ?_
    refine wp_seq ?_
    refine W_region ?_
    refine L (D_v (R_move rfl) ?_)
    refine L (D_v (R_assign rfl) ?_)
    refine L (D_v (R_assign rfl) ?_)
    refine S_nil ?_
    refine T_tn ?_
    refine wp_ret ?_
    refine ret2 (v := .int _ _) (v2 := .bool _) rfl rfl rfl ⟨?_, hE⟩
    simp only [num, nmAt, sh8_or, Nat.add_zero]
set_option maxRecDepth 4000 in
set_option maxHeartbeats 1000000 in
theorem c171 (v : Value) (b : List UInt8) (o n : Nat) (w : World) (h : Bs w v b) (hn : n ≤ 100) (ho : o ≤ 100000) (hb : o + n * 8 ≤ b.length) : Calls Tryz.prog 74 [v, i64 ((o : Nat) : Int), i64 ((n : Nat) : Int)].toArray w (RetE w fun r w' => Ow cN w.heap.size w.heap.size w' r (nmsAt b o n)) := by
  refine enter Tryz.func74 Tryz.ntmps74 rfl rfl ?_
  have hE := Ext.refl w
  have hbb := h.le
  refine wp_seq ?_
  refine W_region ?_
  refine L (D_v (R_assign rfl) ?_)
  refine S_nil ?_
  refine T_tn ?_
  refine wp_seq ?_
  refine W_region ?_
  refine L (D_v (R_assign rfl) ?_)
  refine S_nil ?_
  refine T_tn ?_
  refine wp_seq ?_
  refine wp_seq ?_
  refine W_region ?_
  refine L (D_v (R_assign rfl) ?_)
  refine S_nil ?_
  refine T_tn ?_
  refine wp_block ?_
  refine W_loop (fun mz g W => ∃ (es : List Nm) (i : Nat) (r7 : Value), mz = n - i ∧ g 0 = v ∧ g 1 = i64 ((o : Nat) : Int) ∧ g 2 = i64 ((n : Nat) : Int) ∧ g 7 = r7 ∧ g 8 = i64 ((i : Nat) : Int) ∧ Ext w W ∧ Ow cN w.heap.size w.heap.size W r7 es ∧ i ≤ n ∧ es = (nmsAt b o n).take i) ⟨[], 0, _, rfl, rfl, rfl, rfl, rfl, rfl, hE, (Ow.nil cN w.heap.size _ _), (Nat.zero_le _), (by simp)⟩ ?_
  rintro mz f4 w4l ⟨es, i, r7, hm, q0, q1, q2, q7, q8, hE, or7, hi, he⟩
  have hel : es.length ≤ n := by rw [he, List.length_take]; omega
  refine wp_seq ?_
  refine wp_seq ?_
  refine W_region ?_
  refine L (D_v (R_move q8) ?_)
  refine L (D_v (R_move q2) ?_)
  refine L (D_v (R_lssI rfl rfl) ?_)
  refine S_nil ?_
  refine T_tn ?_
  refine W_if rfl (fun c1 => ?_) (fun c1 => ?_)
  ·
    have lk : i < n := by simp at c1; omega
    refine wp_skip ?_
    refine T_tn ?_
    refine wp_seq ?_
    refine wp_block ?_
    refine wp_seq ?_
    refine W_region ?_
    refine L (D_v (R_move q0) ?_)
    refine L (D_v (R_move q1) ?_)
    refine L (D_v (R_move q8) ?_)
    refine L (D_v (R_mulN (m := 8) (j := i) rfl rfl (by (try simp only [List.length_take, List.length_drop, List.length_append, List.length_cons, List.length_nil, List.length_replicate, List.length_set, Nm.b_len, be2_len]); omega)) ?_)
    refine L (D_v (R_addN (m := o) (j := (8 * i)) rfl rfl (by (try simp only [List.length_take, List.length_drop, List.length_append, List.length_cons, List.length_nil, List.length_replicate, List.length_set, Nm.b_len, be2_len]); omega)) ?_)
    refine L (D_call (R_callF Tryz.call98 rfl rfl) (c183 v (b) ((o + (8 * i))) _ 8 _ rfl rfl (h.ext hE) (by omega) (by omega)) (fun w6_5 e6_5 => ?_))
    replace hE := hE.trans e6_5
    replace or7 := or7.ext e6_5
    refine L (D_v (R_move rfl) ?_)
    refine L (D_v (R_extract rfl rfl) ?_)
    refine L (D_v (R_extract rfl rfl) ?_)
    refine L (D_v (R_assign rfl) ?_)
    refine L (D_v (R_assign rfl) ?_)
    refine S_nil ?_
    refine T_tn ?_
    refine W_region ?_
    refine L (D_v (R_move q7) ?_)
    refine L (D_v (R_move rfl) ?_)
    refine L (D_call (R_callF Tryz.call99 rfl rfl) (c138 (num (nmAt (b) ((o + (8 * i))))) _) (fun w7_2 e7_2 => ?_))
    replace hE := hE.trans e7_2
    replace or7 := or7.ext e7_2
    refine L (D_buildL1 (C := cN) (lo := w.heap.size) (y := (nmOf (num (nmAt (b) ((o + (8 * i))))))) Tryz.underlying22 Tryz.sizeOf29 Tryz.zeroValue29 (mapp1 rfl) (by decide) trivial (fun v7_3 w7_3 o7_3 e7_3 => ?_))
    have zr7_v7_3 := own_apart or7.1 o7_3.1
    have zv7_3_r7 := fun k hk hk2 => zr7_v7_3 k hk2 hk
    replace o7_3 := o7_3.low hE.size
    replace hE := hE.trans e7_3
    replace or7 := or7.ext e7_3
    refine L (D_appendL elt24 Tryz.underlying22 rfl rfl or7 (Nat.le_refl _) o7_3.ls (by (try simp only [List.length_take, List.length_drop, List.length_append, List.length_cons, List.length_nil, List.length_replicate, List.length_set, Nm.b_len, be2_len]); omega) (by (try simp only [List.length_take, List.length_drop, List.length_append, List.length_cons, List.length_nil, List.length_replicate, List.length_set, Nm.b_len, be2_len]); omega) hE.size (fun v7_4 w7_4 o7_4 g7_4 f7_4 sv7_4 => ?_))
    have zv7_3_v7_4 : ∀ k, Value.ownBlock v7_3 = some k → Value.ownBlock v7_4 ≠ some k := fun k hk2 hk => (sv7_4 _ hk).elim (fun h => zv7_3_r7 k hk2 h) (fun h => absurd h (Nat.not_le.2 (own_lt o7_3.1 hk2)))
    have zv7_4_v7_3 := fun k hk hk2 => zv7_3_v7_4 k hk2 hk
    replace hE := hE.grown g7_4 (fun k hk => own_ge or7.1 hk)
    replace o7_3 := o7_3.grown g7_4 (zv7_3_r7) f7_4
    refine L (D_v (R_assign rfl) ?_)
    refine S_nil ?_
    refine T_bn ?_
    refine T_tn ?_
    refine W_region ?_
    refine L (D_v (R_move q8) ?_)
    refine L (D_v (R_addN (m := i) (j := 1) rfl rfl (by (try simp only [List.length_take, List.length_drop, List.length_append, List.length_cons, List.length_nil, List.length_replicate, List.length_set, Nm.b_len, be2_len]); omega)) ?_)
    refine L (D_v (R_assign rfl) ?_)
    refine S_nil ?_
    refine T_tn ?_
    refine ⟨_, _, ?_, rfl, _, i + 1, _, rfl, q0, q1, q2, rfl, rfl, hE, o7_4, ?_, ?_⟩
    all_goals first | omega | (rw [nmOf_num, Nat.mul_comm 8 i]; exact push_next he (nmsAt_at b o n lk))
  ·
    have lk : ¬ i < n := by simp at c1; omega
    refine wp_exit ?_
    refine T_te ?_
    refine T_te ?_
    refine T_be ?_
    refine T_tn ?_
    refine wp_seq ?_
    refine W_region ?_
    refine L (D_v (R_move q7) ?_)
    refine L (D_v (R_assign rfl) ?_)
    refine S_nil ?_
    refine T_tn ?_
    refine wp_ret ?_
    refine ret1 (v := r7) rfl rfl ⟨_, rfl, hE, ?_⟩
    obtain rfl : i = n := by omega
    rw [← push_all he (by rw [nmsAt_len]; omega)]
    exact or7
set_option maxRecDepth 4000 in
set_option maxHeartbeats 2000000 in
theorem c164 (m : Nm) (v : Value) (sig : List Nm) (w : World) (hs : sig.length = 18) (h : Ls cN w.heap.size w v sig) : Calls Tryz.prog 94 [m.v, v].toArray w (Ret w (.tuple #[(recN m sig).v, .bool true])) := by
  refine enter Tryz.func94 Tryz.ntmps94 rfl rfl ?_
  have hE := Ext.refl w
  refine wp_seq ?_
  refine W_region ?_
  refine L (D_box (c := (m).l) (rfl) (fun aB1_0 w1_0 e1_0 gB1_0 hB1_0 => ?_))
  have lB1_0 := Nat.le_trans hE.size gB1_0
  replace hE := hE.trans e1_0
  refine L (D_alloc (c := (Nm.zero).l) Tryz.zeroValue29 rfl (fun aB1_1 w1_1 e1_1 gB1_1 hB1_1 => ?_))
  have lB1_1 := Nat.le_trans hE.size gB1_1
  have nB1_0B1_1 := hB1_0.ne gB1_1
  replace hE := hE.trans e1_1
  replace hB1_0 := hB1_0.ext e1_1
  refine L (D_v (R_assign rfl) ?_)
  refine S_nil ?_
  refine T_tn ?_
  refine wp_seq ?_
  refine wp_seq ?_
  refine W_region ?_
  refine L (D_v (R_move rfl) ?_)
  refine L (D_v (R_len Tryz.underlying22 rfl (h.ext hE).1) ?_)
  refine L (D_v (R_neqI rfl rfl) ?_)
  refine S_nil ?_
  refine T_tn ?_
  refine W_if rfl (fun c1 => ?_) (fun c1 => ?_)
  ·
    exfalso; simp [hs] at c1
  ·
    refine wp_skip ?_
    refine T_tn ?_
    refine wp_seq ?_
    refine W_region ?_
    refine L (D_makeL (C := cN) (lo := w.heap.size) (l := 18) (c := 18) mk24 Tryz.underlying22 rfl rfl (by (try simp only [List.length_take, List.length_drop, List.length_append, List.length_cons, List.length_nil, List.length_replicate, List.length_set, Nm.b_len, be2_len]); omega) (by (try simp only [List.length_take, List.length_drop, List.length_append, List.length_cons, List.length_nil, List.length_replicate, List.length_set, Nm.b_len, be2_len]); omega) (by (try simp only [List.length_take, List.length_drop, List.length_append, List.length_cons, List.length_nil, List.length_replicate, List.length_set, Nm.b_len, be2_len]); omega) (fun v3_0 w3_0 o3_0 e3_0 => ?_))
    have yv3_0_B1_0 : Value.ownBlock v3_0 ≠ some aB1_0 := fun hk => absurd (own_ge o3_0.1 hk) (Nat.not_le.2 hB1_0.lt)
    have yv3_0_B1_1 : Value.ownBlock v3_0 ≠ some aB1_1 := fun hk => absurd (own_ge o3_0.1 hk) (Nat.not_le.2 hB1_1.lt)
    replace o3_0 := o3_0.low hE.size
    replace hE := hE.trans e3_0
    replace hB1_0 := hB1_0.ext e3_0
    replace hB1_1 := hB1_1.ext e3_0
    refine L (D_v (R_assign rfl) ?_)
    refine S_nil ?_
    refine T_tn ?_
    refine wp_seq ?_
    refine wp_seq ?_
    refine W_region ?_
    refine L (D_v (R_loadA (c := (m).l) Tryz.isAgg29 Tryz.sizeOf29 hB1_0 rfl rfl rfl) ?_)
    refine L (D_callE (R_callF Tryz.call119 rfl rfl) (c178 (m) _) (fun v4_1 w4_1 e4_1 p4_1 => ?_))
    have o4_1 := p4_1
    replace o4_1 := o4_1.low hE.size
    replace o4_1 := Ow.lev (lo' := w.heap.size) o4_1 (fun _ _ _ => trivial)
    replace hE := hE.trans e4_1
    replace hB1_0 := hB1_0.ext e4_1
    replace hB1_1 := hB1_1.ext e4_1
    replace o3_0 := o3_0.ext e4_1
    refine L (D_v (R_len Tryz.underlying126 rfl o4_1.ls.1) ?_)
    refine L (D_v (R_move rfl) ?_)
    refine S_nil ?_
    refine T_tn ?_
    refine wp_block ?_
    refine W_loop (fun mz g W => ∃ (es : List Nm) (i : Nat), mz = 18 - i ∧ g 1 = v ∧ g 4 = .pointer (some ⟨aB1_1, 0, none⟩) ∧ g 6 = v3_0 ∧ g 15 = v4_1 ∧ g 16 = i64 ((((digits m)).length : Nat) : Int) ∧ g 17 = i64 ((i : Nat) : Int) ∧ Ext w W ∧ Blk W aB1_1 (Nm.zero).l 29 ∧ Ow cN w.heap.size w.heap.size W v3_0 es ∧ Ow cI w.heap.size w.heap.size W v4_1 (digits m) ∧ i ≤ 18 ∧ es.length = 18 ∧ es.take i = (recL m sig).take i) ⟨_, 0, rfl, rfl, rfl, rfl, rfl, rfl, rfl, hE, hB1_1, o3_0, o4_1, (Nat.zero_le _), (by simp), (by simp)⟩ ?_
    rintro mz f5 w5l ⟨es, i, hm, q1, q4, q6, q15, q16, q17, hE, hB1_1, ov3_0, ov4_1, hi, hl, ht⟩
    refine wp_seq ?_
    refine W_region ?_
    refine L (D_v (R_lssI q17 q16) ?_)
    refine S_nil ?_
    refine T_tn ?_
    refine wp_seq ?_
    refine W_if rfl (fun c2 => ?_) (fun c2 => ?_)
    ·
      have lk : i < 18 := by have h1 := of_decide_eq_true c2; (try rw [digits_len] at h1); omega
      have hd := digit_le m i
      refine wp_skip ?_
      refine T_tn ?_
      refine wp_seq ?_
      refine wp_block ?_
      refine wp_seq ?_
      refine W_region ?_
      refine L (D_v (R_move q17) ?_)
      refine L (D_v (R_elAddr (i := i) Tryz.underlying126 Tryz.sizeOf3 q15 q17 ov4_1.ls.1 (by rw [digits_len]; omega)) ?_)
      refine L (D_v (R_ldI (i := i) (y := ((digits m).getD (i) 0)) Tryz.isAgg3 rfl ov4_1.ls (getD_some (d := 0) (by rw [digits_len]; omega))) ?_)
      refine L (D_v (R_assign rfl) ?_)
      refine L (D_v (R_assign rfl) ?_)
      refine S_nil ?_
      refine T_tn ?_
      refine W_region ?_
      refine L (D_v (R_move q6) ?_)
      refine L (D_v (R_move rfl) ?_)
      refine L (D_v (R_move q1) ?_)
      refine L (D_v (R_move rfl) ?_)
      refine L (D_v (R_elAddr (i := i) Tryz.underlying22 Tryz.sizeOf29 rfl rfl (h.ext hE).1 (by (try simp only [List.length_take, List.length_drop, List.length_append, List.length_cons, List.length_nil, List.length_replicate, List.length_set, Nm.b_len, be2_len]); omega)) ?_)
      refine L (D_v (R_ldL (C := cN) (i := i) (y := ((sig).getD (i) Nm.zero)) Tryz.isAgg29 Tryz.sizeOf29 rfl (h.ext hE) (getD_some (d := Nm.zero) (by (try simp only [List.length_take, List.length_drop, List.length_append, List.length_cons, List.length_nil, List.length_replicate, List.length_set, Nm.b_len, be2_len]); omega))) ?_)
      refine L (D_v (R_move rfl) ?_)
      refine L (D_v (R_move rfl) ?_)
      refine L (D_call (R_callF Tryz.call120 rfl rfl) (c179 (((sig).getD (i) Nm.zero)) (i) (((digits m).getD (i) 0)) (15) _ (by omega) (by omega) (by omega)) (fun w8_8 e8_8 => ?_))
      replace hE := hE.trans e8_8
      replace hB1_1 := hB1_1.ext e8_8
      replace ov3_0 := ov3_0.ext e8_8
      replace ov4_1 := ov4_1.ext e8_8
      refine L (D_v (R_elAddr (i := i) Tryz.underlying22 Tryz.sizeOf29 rfl rfl ov3_0.ls.1 (by (try simp only [List.length_take, List.length_drop, List.length_append, List.length_cons, List.length_nil, List.length_replicate, List.length_set, Nm.b_len, be2_len]); omega)) ?_)
      refine L (D_stL (C := cN) (i := i) (c := (wk (i) (15 - ((digits m).getD (i) 0)) (((digits m).getD (i) 0)) ((sig).getD (i) Nm.zero))) (by decide) Tryz.sizeOf29 rfl rfl ov3_0 (Nat.le_refl _) (by (try simp only [List.length_take, List.length_drop, List.length_append, List.length_cons, List.length_nil, List.length_replicate, List.length_set, Nm.b_len, be2_len]); omega) trivial (fun w8_10 o8_10 g8_10 f8_10 => ?_))
      replace hE := hE.grown g8_10 (fun k hk => own_ge ov3_0.1 hk)
      replace hB1_1 := hB1_1.grown g8_10 (yv3_0_B1_1)
      replace ov4_1 := ov4_1.grown g8_10 (own_ne ov4_1.1 ov3_0.1 rfl) f8_10
      refine S_nil ?_
      refine T_bn ?_
      refine T_tn ?_
      refine W_region ?_
      refine L (D_v (R_addN (m := i) (j := 1) q17 rfl (by (try simp only [List.length_take, List.length_drop, List.length_append, List.length_cons, List.length_nil, List.length_replicate, List.length_set, Nm.b_len, be2_len]); omega)) ?_)
      refine L (D_v (R_move rfl) ?_)
      refine S_nil ?_
      refine T_tn ?_
      refine ⟨_, _, ?_, rfl, _, i + 1, rfl, q1, q4, q6, q15, q16, rfl, hE, hB1_1, o8_10, ov4_1, ?_, ?_, ?_⟩
      all_goals first | omega | (simp only [List.length_set]; exact hl) | exact fill_next ht (by omega) (recL_at m sig lk)
    ·
      have lk : ¬ i < 18 := by have h1 := of_decide_eq_false c2; (try rw [digits_len] at h1); omega
      refine wp_exit ?_
      refine T_te ?_
      refine T_te ?_
      refine T_be ?_
      refine T_tn ?_
      refine wp_seq ?_
      refine W_region ?_
      refine L (D_v (R_move q6) ?_)
      refine L (D_call (R_callF Tryz.call121 rfl rfl) (c181 v3_0 (es) _ (by (try simp only [List.length_take, List.length_drop, List.length_append, List.length_cons, List.length_nil, List.length_replicate, List.length_set, Nm.b_len, be2_len]); omega) (ov3_0.ls.lev fun _ _ _ => trivial)) (fun w7_1 e7_1 => ?_))
      replace hE := hE.trans e7_1
      replace hB1_1 := hB1_1.ext e7_1
      replace ov3_0 := ov3_0.ext e7_1
      have xov3_0 := yv3_0_B1_1
      have h0 := hB1_1
      refine L (D_storeA Tryz.sizeOf29 hB1_1 q4 rfl rfl rfl rfl (l' := ((pubE (es))).l) rfl (fun w7_2 k7_2 hB1_1 => ?_))
      have f7_2 := Fb.kp k7_2 (Nat.le_trans (Nat.le_refl _) lB1_1) (Blk.notB h0 rfl)
      replace hE := hE.kp k7_2 lB1_1
      replace ov3_0 := ov3_0.kp k7_2 xov3_0 f7_2
      refine L (D_v (R_assign rfl) ?_)
      refine S_nil ?_
      refine T_tn ?_
      refine wp_ret ?_
      refine retct (c := ((pubE (es))).l) (v2 := .bool true) rfl q4 rfl Tryz.isAgg29 Tryz.sizeOf29 hB1_1 rfl rfl ⟨?_, hE⟩
      obtain rfl : i = 18 := by omega
      rw [fill_all ht (by omega) (by rw [recL_len]; omega)]; rfl
set_option maxRecDepth 4000 in
set_option maxHeartbeats 2000000 in
theorem c170 (m : Nm) (v : Value) (sig : List Nm) (w : World) (hs : sig.length = 18) (h : Ls cN w.heap.size w v sig) : Calls Tryz.prog 73 [m.v, v].toArray w (Ret w (.tuple #[(recN m sig).v, .bool true])) := by
  refine enter Tryz.func73 Tryz.ntmps73 rfl rfl ?_
  have hE := Ext.refl w
  refine wp_seq ?_
  refine W_region ?_
  refine L (D_box (c := (m).l) (rfl) (fun aB1_0 w1_0 e1_0 gB1_0 hB1_0 => ?_))
  have lB1_0 := Nat.le_trans hE.size gB1_0
  replace hE := hE.trans e1_0
  refine L (D_alloc (c := (Nm.zero).l) Tryz.zeroValue29 rfl (fun aB1_1 w1_1 e1_1 gB1_1 hB1_1 => ?_))
  have lB1_1 := Nat.le_trans hE.size gB1_1
  have nB1_0B1_1 := hB1_0.ne gB1_1
  replace hE := hE.trans e1_1
  replace hB1_0 := hB1_0.ext e1_1
  refine L (D_v (R_assign rfl) ?_)
  refine S_nil ?_
  refine T_tn ?_
  refine wp_seq ?_
  refine wp_seq ?_
  refine W_region ?_
  refine L (D_v (R_move rfl) ?_)
  refine L (D_v (R_len Tryz.underlying22 rfl (h.ext hE).1) ?_)
  refine L (D_v (R_neqI rfl rfl) ?_)
  refine S_nil ?_
  refine T_tn ?_
  refine W_if rfl (fun c1 => ?_) (fun c1 => ?_)
  ·
    exfalso; simp [hs] at c1
  ·
    refine wp_skip ?_
    refine T_tn ?_
    refine wp_seq ?_
    refine W_region ?_
    refine L (D_v (R_loadA (c := (m).l) Tryz.isAgg29 Tryz.sizeOf29 hB1_0 rfl rfl rfl) ?_)
    refine L (D_callE (R_callF Tryz.call88 rfl rfl) (c143 (m) _) (fun v3_1 w3_1 e3_1 p3_1 => ?_))
    have o3_1 := p3_1
    replace o3_1 := o3_1.low hE.size
    replace o3_1 := Ow.lev (lo' := w.heap.size) o3_1 (fun _ _ _ => trivial)
    replace hE := hE.trans e3_1
    replace hB1_0 := hB1_0.ext e3_1
    replace hB1_1 := hB1_1.ext e3_1
    refine L (D_v (R_assign rfl) ?_)
    refine S_nil ?_
    refine T_tn ?_
    refine wp_seq ?_
    refine W_region ?_
    refine L (D_v (R_assign rfl) ?_)
    refine S_nil ?_
    refine T_tn ?_
    refine wp_seq ?_
    refine wp_seq ?_
    refine W_region ?_
    refine L (D_v (R_assign rfl) ?_)
    refine S_nil ?_
    refine T_tn ?_
    refine wp_block ?_
    refine W_loop (fun mz g W => ∃ (es : List Nm) (i : Nat) (r7 : Value), mz = 18 - i ∧ g 1 = v ∧ g 4 = .pointer (some ⟨aB1_1, 0, none⟩) ∧ g 6 = v3_1 ∧ g 7 = r7 ∧ g 8 = i64 ((i : Nat) : Int) ∧ Ext w W ∧ Blk W aB1_1 (Nm.zero).l 29 ∧ Ow cI w.heap.size w.heap.size W v3_1 (digits m) ∧ Ow cN w.heap.size w.heap.size W r7 es ∧ Value.ownBlock r7 ≠ some aB1_1 ∧ i ≤ 18 ∧ es = (recL m sig).take i) ⟨[], 0, _, rfl, rfl, rfl, rfl, rfl, rfl, hE, hB1_1, o3_1, (Ow.nil cN w.heap.size _ _), (fun h => nomatch (show (none : Option Nat) = some _ from h)), (Nat.zero_le _), (by simp)⟩ ?_
    rintro mz f6 w6l ⟨es, i, r7, hm, q1, q4, q6, q7, q8, hE, hB1_1, ov3_1, or7, yr7_B1_1, hi, he⟩
    have hel : es.length ≤ 18 := by rw [he, List.length_take]; omega
    refine wp_seq ?_
    refine wp_seq ?_
    refine W_region ?_
    refine L (D_v (R_move q8) ?_)
    refine L (D_v (R_lssI rfl rfl) ?_)
    refine S_nil ?_
    refine T_tn ?_
    refine W_if rfl (fun c2 => ?_) (fun c2 => ?_)
    ·
      have lk : i < 18 := by have h1 := of_decide_eq_true c2; (try rw [digits_len] at h1); omega
      have hd := digit_le m i
      refine wp_skip ?_
      refine T_tn ?_
      refine wp_seq ?_
      refine wp_block ?_
      refine W_held (fun W => Ext w W ∧ Blk W aB1_1 (Nm.zero).l 29 ∧ Ow cI w.heap.size w.heap.size W v3_1 (digits m) ∧ True) mixed (fun w8_99 e8_99 => ?_)
      replace hE := hE.trans e8_99
      replace hB1_1 := hB1_1.ext e8_99
      replace ov3_1 := ov3_1.ext e8_99
      replace or7 := or7.ext e8_99
      refine H_take (i := 0) rfl (by kernel_rfl) (by kernel_rfl) (by kernel_rfl) rfl (pq_block (pq_then (pq_then (pq_block (pq_then pq_body))))) ⟨hE, hB1_1, ov3_1, trivial⟩ rfl (fun w hw => R_move q7) ?_
      refine H_take (i := 1) rfl (by kernel_rfl) (by kernel_rfl) (by kernel_rfl) rfl (pq_block (pq_then (pq_then (pq_block (pq_then pq_body))))) ⟨hE, hB1_1, ov3_1, trivial⟩ rfl (fun w hw => R_move q1) ?_
      refine H_take (i := 2) rfl (by kernel_rfl) (by kernel_rfl) (by kernel_rfl) rfl (pq_block (pq_then (pq_then (pq_block (pq_then pq_body))))) ⟨hE, hB1_1, ov3_1, trivial⟩ rfl (fun w hw => R_move q8) ?_
      refine H_take (i := 3) rfl (by kernel_rfl) (by kernel_rfl) (by kernel_rfl) rfl (pq_block (pq_then (pq_then (pq_block (pq_then pq_body))))) ⟨hE, hB1_1, ov3_1, trivial⟩ rfl (fun w hw => R_elAddr (i := i) Tryz.underlying22 Tryz.sizeOf29 rfl rfl (h.ext hw.1).1 (by (try simp only [List.length_take, List.length_drop, List.length_append, List.length_cons, List.length_nil, List.length_replicate, List.length_set, Nm.b_len, be2_len]); omega)) ?_
      refine H_take (i := 4) rfl (by kernel_rfl) (by kernel_rfl) (by kernel_rfl) rfl (pq_block (pq_then (pq_then (pq_block (pq_then pq_body))))) ⟨hE, hB1_1, ov3_1, trivial⟩ rfl (fun w hw => R_ldL (C := cN) (i := i) (y := ((sig).getD (i) Nm.zero)) Tryz.isAgg29 Tryz.sizeOf29 rfl (h.ext hw.1) (getD_some (d := Nm.zero) (by (try simp only [List.length_take, List.length_drop, List.length_append, List.length_cons, List.length_nil, List.length_replicate, List.length_set, Nm.b_len, be2_len]); omega))) ?_
      refine H_take (i := 5) rfl (by kernel_rfl) (by kernel_rfl) (by kernel_rfl) rfl (pq_block (pq_then (pq_then (pq_block (pq_then pq_body))))) ⟨hE, hB1_1, ov3_1, trivial⟩ rfl (fun w hw => R_move q8) ?_
      refine H_take (i := 6) rfl (by kernel_rfl) (by kernel_rfl) (by kernel_rfl) rfl (pq_block (pq_then (pq_then (pq_block (pq_then pq_body))))) ⟨hE, hB1_1, ov3_1, trivial⟩ rfl (fun w hw => R_move q6) ?_
      refine H_take (i := 7) rfl (by kernel_rfl) (by kernel_rfl) (by kernel_rfl) rfl (pq_block (pq_then (pq_then (pq_block (pq_then pq_body))))) ⟨hE, hB1_1, ov3_1, trivial⟩ rfl (fun w hw => R_move q8) ?_
      refine H_take (i := 8) rfl (by kernel_rfl) (by kernel_rfl) (by kernel_rfl) rfl (pq_block (pq_then (pq_then (pq_block (pq_then pq_body))))) ⟨hE, hB1_1, ov3_1, trivial⟩ rfl (fun w hw => R_elAddr (i := i) Tryz.underlying126 Tryz.sizeOf3 rfl rfl hw.2.2.1.ls.1 (by rw [digits_len]; omega)) ?_
      refine H_take (i := 9) rfl (by kernel_rfl) (by kernel_rfl) (by kernel_rfl) rfl (pq_block (pq_then (pq_then (pq_block (pq_then pq_body))))) ⟨hE, hB1_1, ov3_1, trivial⟩ rfl (fun w hw => R_ldI (i := i) (y := ((digits m).getD (i) 0)) Tryz.isAgg3 rfl hw.2.2.1.ls (getD_some (d := 0) (by rw [digits_len]; omega))) ?_
      refine H_op (i := 10) (by kernel_rfl) rfl rfl (D_call (R_callF Tryz.call89 rfl rfl) (c144 (((sig).getD (i) Nm.zero)) (i) (((digits m).getD (i) 0)) (15) _ (by omega) (by omega) (by omega)) (fun w8_10 e8_10 => ?_))
      replace hE := hE.trans e8_10
      replace hB1_1 := hB1_1.ext e8_10
      replace ov3_1 := ov3_1.ext e8_10
      replace or7 := or7.ext e8_10
      refine ⟨⟨hE, hB1_1, ov3_1, trivial⟩, ?_⟩
      refine H_op (i := 11) (by kernel_rfl) rfl rfl (D_buildL1 (C := cN) (lo := w.heap.size) (y := (wk (i) (15 - ((digits m).getD (i) 0)) (((digits m).getD (i) 0)) ((sig).getD (i) Nm.zero))) Tryz.underlying22 Tryz.sizeOf29 Tryz.zeroValue29 (mapp1 rfl) (by decide) trivial (fun v8_11 w8_11 o8_11 e8_11 => ?_))
      have yv8_11_B1_1 : Value.ownBlock v8_11 ≠ some aB1_1 := fun hk => absurd (own_ge o8_11.1 hk) (Nat.not_le.2 hB1_1.lt)
      have zr7_v8_11 := own_apart or7.1 o8_11.1
      have zv8_11_r7 := fun k hk hk2 => zr7_v8_11 k hk2 hk
      replace o8_11 := o8_11.low hE.size
      replace hE := hE.trans e8_11
      replace hB1_1 := hB1_1.ext e8_11
      replace ov3_1 := ov3_1.ext e8_11
      replace or7 := or7.ext e8_11
      refine ⟨⟨hE, hB1_1, ov3_1, trivial⟩, ?_⟩
      refine H_op (i := 12) (by kernel_rfl) rfl rfl (D_appendL elt24 Tryz.underlying22 rfl rfl or7 (Nat.le_refl _) o8_11.ls (by (try simp only [List.length_take, List.length_drop, List.length_append, List.length_cons, List.length_nil, List.length_replicate, List.length_set, Nm.b_len, be2_len]); omega) (by (try simp only [List.length_take, List.length_drop, List.length_append, List.length_cons, List.length_nil, List.length_replicate, List.length_set, Nm.b_len, be2_len]); omega) hE.size (fun v8_12 w8_12 o8_12 g8_12 f8_12 sv8_12 => ?_))
      have yv8_12_B1_1 : Value.ownBlock v8_12 ≠ some aB1_1 := fun hk => (sv8_12 _ hk).elim yr7_B1_1 (fun h => absurd h (Nat.not_le.2 hB1_1.lt))
      have zv8_11_v8_12 : ∀ k, Value.ownBlock v8_11 = some k → Value.ownBlock v8_12 ≠ some k := fun k hk2 hk => (sv8_12 _ hk).elim (fun h => zv8_11_r7 k hk2 h) (fun h => absurd h (Nat.not_le.2 (own_lt o8_11.1 hk2)))
      have zv8_12_v8_11 := fun k hk hk2 => zv8_11_v8_12 k hk2 hk
      replace hE := hE.grown g8_12 (fun k hk => own_ge or7.1 hk)
      replace hB1_1 := hB1_1.grown g8_12 (yr7_B1_1)
      replace ov3_1 := ov3_1.grown g8_12 (own_ne ov3_1.1 or7.1 rfl) f8_12
      replace o8_11 := o8_11.grown g8_12 (zv8_11_r7) f8_12
      refine ⟨⟨hE, hB1_1, ov3_1, trivial⟩, ?_⟩
      refine H_take (i := 13) rfl (by kernel_rfl) (by kernel_rfl) (by kernel_rfl) rfl (pq_block (pq_then (pq_then (pq_block (pq_then pq_body))))) ⟨hE, hB1_1, ov3_1, trivial⟩ rfl (fun w hw => R_assign rfl) ?_
      refine H_done (by kernel_rfl) ?_
      refine T_bn ?_
      refine T_tn ?_
      refine W_region ?_
      refine L (D_v (R_move q8) ?_)
      refine L (D_v (R_addN (m := i) (j := 1) rfl rfl (by (try simp only [List.length_take, List.length_drop, List.length_append, List.length_cons, List.length_nil, List.length_replicate, List.length_set, Nm.b_len, be2_len]); omega)) ?_)
      refine L (D_v (R_assign rfl) ?_)
      refine S_nil ?_
      refine T_tn ?_
      refine ⟨_, _, ?_, rfl, _, i + 1, _, rfl, q1, q4, q6, rfl, rfl, hE, hB1_1, ov3_1, o8_12, yv8_12_B1_1, ?_, ?_⟩
      all_goals first | omega | exact push_next he (recL_at m sig lk)
    ·
      have lk : ¬ i < 18 := by have h1 := of_decide_eq_false c2; (try rw [digits_len] at h1); omega
      refine wp_exit ?_
      refine T_te ?_
      refine T_te ?_
      refine T_be ?_
      refine T_tn ?_
      refine wp_seq ?_
      refine W_region ?_
      refine L (D_v (R_move q7) ?_)
      refine L (D_call (R_callF Tryz.call92 rfl rfl) (c174 r7 (es) _ (by (try simp only [List.length_take, List.length_drop, List.length_append, List.length_cons, List.length_nil, List.length_replicate, List.length_set, Nm.b_len, be2_len]); omega) (or7.ls.lev fun _ _ _ => trivial)) (fun w8_1 e8_1 => ?_))
      replace hE := hE.trans e8_1
      replace hB1_1 := hB1_1.ext e8_1
      replace or7 := or7.ext e8_1
      have xor7 := yr7_B1_1
      have h0 := hB1_1
      refine L (D_storeA Tryz.sizeOf29 hB1_1 q4 rfl rfl rfl rfl (l' := ((pubE (es))).l) rfl (fun w8_2 k8_2 hB1_1 => ?_))
      have f8_2 := Fb.kp k8_2 (Nat.le_trans (Nat.le_refl _) lB1_1) (Blk.notB h0 rfl)
      replace hE := hE.kp k8_2 lB1_1
      replace or7 := or7.kp k8_2 xor7 f8_2
      refine L (D_v (R_assign rfl) ?_)
      refine S_nil ?_
      refine T_tn ?_
      refine wp_ret ?_
      refine retct (c := ((pubE (es))).l) (v2 := .bool true) rfl q4 rfl Tryz.isAgg29 Tryz.sizeOf29 hB1_1 rfl rfl ⟨?_, hE⟩
      obtain rfl : i = 18 := by omega
      rw [push_all he (by rw [recL_len]; omega)]; rfl
set_option maxRecDepth 4000 in
set_option maxHeartbeats 2000000 in
theorem c134 (v : Value) (b : List UInt8) (o j : Nat) (m : Nm) (w : World) (h : Bs w v b) (ho : o ≤ 100000) (hj : j < 32) (hb : o + 184 ≤ b.length) : Calls Tryz.prog 68 [v, i64 ((o : Nat) : Int), i64 ((j : Nat) : Int), m.v].toArray w (Ret w (clim b o j m).v) := by
  refine enter Tryz.func68 Tryz.ntmps68 rfl rfl ?_
  have hE := Ext.refl w
  refine wp_seq ?_
  refine W_region ?_
  refine L (D_box (c := (m).l) (rfl) (fun aB1_0 w1_0 e1_0 gB1_0 hB1_0 => ?_))
  have lB1_0 := Nat.le_trans hE.size gB1_0
  replace hE := hE.trans e1_0
  refine L (D_alloc (c := (Nm.zero).l) Tryz.zeroValue29 rfl (fun aB1_1 w1_1 e1_1 gB1_1 hB1_1 => ?_))
  have lB1_1 := Nat.le_trans hE.size gB1_1
  have nB1_0B1_1 := hB1_0.ne gB1_1
  replace hE := hE.trans e1_1
  replace hB1_0 := hB1_0.ext e1_1
  refine S_nil ?_
  refine T_tn ?_
  refine wp_seq ?_
  refine W_cut (R := fun g W => ∃ (v2_3 : Value) (aB2_8 : Nat), (g 0 = v) ∧ (g 1 = i64 ((o : Nat) : Int)) ∧ (g 2 = i64 ((j : Nat) : Int)) ∧ (g 8 = .pointer (some ⟨aB1_1, 0, none⟩)) ∧ (g 9 = .pointer (some ⟨aB2_8, 0, none⟩)) ∧ Ext w W ∧ Blk W aB1_0 (m).l 29 ∧ Blk W aB1_1 (Nm.zero).l 29 ∧ Blk W aB2_8 ((recN m ((nmsAt (b) (o) (18))))).l 29 ∧ w.heap.size ≤ aB2_8 ∧ aB1_0 ≠ aB2_8 ∧ aB1_1 ≠ aB2_8 ∧ Value.ownBlock v2_3 ≠ some aB1_0 ∧ Value.ownBlock v2_3 ≠ some aB1_1 ∧ Value.ownBlock v2_3 ≠ some aB2_8) ?_ ?_
  ·
    refine W_held (fun W => Ext w W ∧ Blk W aB1_0 (m).l 29 ∧ Blk W aB1_1 (Nm.zero).l 29 ∧ True) mixed (fun w2_99 e2_99 => ?_)
    replace hE := hE.trans e2_99
    replace hB1_0 := hB1_0.ext e2_99
    replace hB1_1 := hB1_1.ext e2_99
    refine H_take (i := 0) rfl (by kernel_rfl) (by kernel_rfl) (by kernel_rfl) rfl pq_cut ⟨hE, hB1_0, hB1_1, trivial⟩ rfl (fun w hw => R_loadA (c := (m).l) Tryz.isAgg29 Tryz.sizeOf29 hw.2.1 rfl rfl rfl) ?_
    refine H_take (i := 1) rfl (by kernel_rfl) (by kernel_rfl) (by kernel_rfl) rfl pq_cut ⟨hE, hB1_0, hB1_1, trivial⟩ rfl (fun w hw => R_move rfl) ?_
    refine H_take (i := 2) rfl (by kernel_rfl) (by kernel_rfl) (by kernel_rfl) rfl pq_cut ⟨hE, hB1_0, hB1_1, trivial⟩ rfl (fun w hw => R_move rfl) ?_
    refine H_op2 (i := 3) (i2 := 8) (by kernel_rfl) rfl rfl rfl rfl ?_ ?_
    ·
      refine D_callE (R_callF Tryz.call95 rfl rfl) (c165 v (b) (o) (18) _ (h.ext hE) (by omega) (by omega) (by omega)) (fun v2_3 w2_3 e2_3 p2_3 => ?_)
      have o2_3 := p2_3
      have yv2_3_B1_0 : Value.ownBlock v2_3 ≠ some aB1_0 := fun hk => absurd (own_ge o2_3.1 hk) (Nat.not_le.2 hB1_0.lt)
      have yv2_3_B1_1 : Value.ownBlock v2_3 ≠ some aB1_1 := fun hk => absurd (own_ge o2_3.1 hk) (Nat.not_le.2 hB1_1.lt)
      replace o2_3 := o2_3.low hE.size
      replace o2_3 := Ow.lev (lo' := w.heap.size) o2_3 (fun _ _ _ => trivial)
      replace hE := hE.trans e2_3
      replace hB1_0 := hB1_0.ext e2_3
      replace hB1_1 := hB1_1.ext e2_3
      refine ⟨⟨hE, hB1_0, hB1_1, trivial⟩, ?_⟩
      refine H_op2 (i := 4) (i2 := 8) (by kernel_rfl) rfl rfl rfl rfl ?_ ?_
      ·
        refine D_call (R_callF Tryz.call94 rfl rfl) (c164 (m) v2_3 ((nmsAt (b) (o) (18))) _ (by first | rfl | omega | exact nmsAt_len _ _ _) (o2_3.ls.lev fun _ _ _ => trivial)) (fun w2_4 e2_4 => ?_)
        replace hE := hE.trans e2_4
        replace hB1_0 := hB1_0.ext e2_4
        replace hB1_1 := hB1_1.ext e2_4
        replace o2_3 := o2_3.ext e2_4
        refine ⟨⟨hE, hB1_0, hB1_1, trivial⟩, ?_⟩
        refine H_take (i := 5) rfl (by kernel_rfl) (by kernel_rfl) (by kernel_rfl) rfl pq_cut ⟨hE, hB1_0, hB1_1, trivial⟩ rfl (fun w hw => R_move rfl) ?_
        refine H_take (i := 6) rfl (by kernel_rfl) (by kernel_rfl) (by kernel_rfl) rfl pq_cut ⟨hE, hB1_0, hB1_1, trivial⟩ rfl (fun w hw => R_extract rfl rfl) ?_
        refine H_take (i := 7) rfl (by kernel_rfl) (by kernel_rfl) (by kernel_rfl) rfl pq_cut ⟨hE, hB1_0, hB1_1, trivial⟩ rfl (fun w hw => R_extract rfl rfl) ?_
        refine H_op (i := 8) (by kernel_rfl) rfl rfl (D_alloc (c := (Nm.zero).l) Tryz.zeroValue29 rfl (fun aB2_8 w2_8 e2_8 gB2_8 hB2_8 => ?_))
        have lB2_8 := Nat.le_trans hE.size gB2_8
        have nB1_0B2_8 := hB1_0.ne gB2_8
        have nB1_1B2_8 := hB1_1.ne gB2_8
        have yv2_3_B2_8 : Value.ownBlock v2_3 ≠ some aB2_8 := fun hk => absurd (own_lt o2_3.1 hk) (Nat.not_lt.2 gB2_8)
        replace hE := hE.trans e2_8
        replace hB1_0 := hB1_0.ext e2_8
        replace hB1_1 := hB1_1.ext e2_8
        replace o2_3 := o2_3.ext e2_8
        refine ⟨⟨hE, hB1_0, hB1_1, trivial⟩, ?_⟩
        have xo2_3 := yv2_3_B2_8
        have h0 := hB2_8
        refine H_op (i := 9) (by kernel_rfl) rfl rfl (D_storeA Tryz.sizeOf29 hB2_8 rfl rfl rfl rfl rfl (l' := ((recN m ((nmsAt (b) (o) (18))))).l) rfl (fun w2_9 k2_9 hB2_8 => ?_))
        have f2_9 := Fb.kp k2_9 (Nat.le_trans (Nat.le_refl _) lB2_8) (Blk.notB h0 rfl)
        replace hE := hE.kp k2_9 lB2_8
        replace hB1_0 := hB1_0.kp k2_9 nB1_0B2_8
        replace hB1_1 := hB1_1.kp k2_9 nB1_1B2_8
        replace o2_3 := o2_3.kp k2_9 xo2_3 f2_9
        refine ⟨⟨hE, hB1_0, hB1_1, trivial⟩, ?_⟩
        refine H_take (i := 10) rfl (by kernel_rfl) (by kernel_rfl) (by kernel_rfl) rfl pq_cut ⟨hE, hB1_0, hB1_1, trivial⟩ rfl (fun w hw => R_assign rfl) ?_
        refine H_done (by kernel_rfl) ?_
        exact ⟨rfl, _, rfl, _, _, rfl, rfl, rfl, rfl, rfl, hE, hB1_0, hB1_1, hB2_8, lB2_8, nB1_0B2_8, nB1_1B2_8, yv2_3_B1_0, yv2_3_B1_1, yv2_3_B2_8⟩
      ·
        refine D_alloc (c := (Nm.zero).l) Tryz.zeroValue29 rfl (fun aB2_8 w2_8 e2_8 gB2_8 hB2_8 => ?_)
        have lB2_8 := Nat.le_trans hE.size gB2_8
        have nB1_0B2_8 := hB1_0.ne gB2_8
        have nB1_1B2_8 := hB1_1.ne gB2_8
        have yv2_3_B2_8 : Value.ownBlock v2_3 ≠ some aB2_8 := fun hk => absurd (own_lt o2_3.1 hk) (Nat.not_lt.2 gB2_8)
        replace hE := hE.trans e2_8
        replace hB1_0 := hB1_0.ext e2_8
        replace hB1_1 := hB1_1.ext e2_8
        replace o2_3 := o2_3.ext e2_8
        refine ⟨⟨hE, hB1_0, hB1_1, trivial⟩, ?_⟩
        refine H_op (i := 4) (by kernel_rfl) rfl rfl (D_call (R_callF Tryz.call94 rfl rfl) (c164 (m) v2_3 ((nmsAt (b) (o) (18))) _ (by first | rfl | omega | exact nmsAt_len _ _ _) (o2_3.ls.lev fun _ _ _ => trivial)) (fun w2_4 e2_4 => ?_))
        replace hE := hE.trans e2_4
        replace hB1_0 := hB1_0.ext e2_4
        replace hB1_1 := hB1_1.ext e2_4
        replace hB2_8 := hB2_8.ext e2_4
        replace o2_3 := o2_3.ext e2_4
        refine ⟨⟨hE, hB1_0, hB1_1, trivial⟩, ?_⟩
        refine H_take (i := 5) rfl (by kernel_rfl) (by kernel_rfl) (by kernel_rfl) rfl pq_cut ⟨hE, hB1_0, hB1_1, trivial⟩ rfl (fun w hw => R_move rfl) ?_
        refine H_take (i := 6) rfl (by kernel_rfl) (by kernel_rfl) (by kernel_rfl) rfl pq_cut ⟨hE, hB1_0, hB1_1, trivial⟩ rfl (fun w hw => R_extract rfl rfl) ?_
        refine H_take (i := 7) rfl (by kernel_rfl) (by kernel_rfl) (by kernel_rfl) rfl pq_cut ⟨hE, hB1_0, hB1_1, trivial⟩ rfl (fun w hw => R_extract rfl rfl) ?_
        have xo2_3 := yv2_3_B2_8
        have h0 := hB2_8
        refine H_op (i := 9) (by kernel_rfl) rfl rfl (D_storeA Tryz.sizeOf29 hB2_8 rfl rfl rfl rfl rfl (l' := ((recN m ((nmsAt (b) (o) (18))))).l) rfl (fun w2_9 k2_9 hB2_8 => ?_))
        have f2_9 := Fb.kp k2_9 (Nat.le_trans (Nat.le_refl _) lB2_8) (Blk.notB h0 rfl)
        replace hE := hE.kp k2_9 lB2_8
        replace hB1_0 := hB1_0.kp k2_9 nB1_0B2_8
        replace hB1_1 := hB1_1.kp k2_9 nB1_1B2_8
        replace o2_3 := o2_3.kp k2_9 xo2_3 f2_9
        refine ⟨⟨hE, hB1_0, hB1_1, trivial⟩, ?_⟩
        refine H_take (i := 10) rfl (by kernel_rfl) (by kernel_rfl) (by kernel_rfl) rfl pq_cut ⟨hE, hB1_0, hB1_1, trivial⟩ rfl (fun w hw => R_assign rfl) ?_
        refine H_done (by kernel_rfl) ?_
        exact ⟨rfl, _, rfl, _, _, rfl, rfl, rfl, rfl, rfl, hE, hB1_0, hB1_1, hB2_8, lB2_8, nB1_0B2_8, nB1_1B2_8, yv2_3_B1_0, yv2_3_B1_1, yv2_3_B2_8⟩
    ·
      refine D_alloc (c := (Nm.zero).l) Tryz.zeroValue29 rfl (fun aB2_8 w2_8 e2_8 gB2_8 hB2_8 => ?_)
      have lB2_8 := Nat.le_trans hE.size gB2_8
      have nB1_0B2_8 := hB1_0.ne gB2_8
      have nB1_1B2_8 := hB1_1.ne gB2_8
      replace hE := hE.trans e2_8
      replace hB1_0 := hB1_0.ext e2_8
      replace hB1_1 := hB1_1.ext e2_8
      refine ⟨⟨hE, hB1_0, hB1_1, trivial⟩, ?_⟩
      refine H_op (i := 3) (by kernel_rfl) rfl rfl (D_callE (R_callF Tryz.call95 rfl rfl) (c165 v (b) (o) (18) _ (h.ext hE) (by omega) (by omega) (by omega)) (fun v2_3 w2_3 e2_3 p2_3 => ?_))
      have o2_3 := p2_3
      have yv2_3_B1_0 : Value.ownBlock v2_3 ≠ some aB1_0 := fun hk => absurd (own_ge o2_3.1 hk) (Nat.not_le.2 hB1_0.lt)
      have yv2_3_B1_1 : Value.ownBlock v2_3 ≠ some aB1_1 := fun hk => absurd (own_ge o2_3.1 hk) (Nat.not_le.2 hB1_1.lt)
      have yv2_3_B2_8 : Value.ownBlock v2_3 ≠ some aB2_8 := fun hk => absurd (own_ge o2_3.1 hk) (Nat.not_le.2 hB2_8.lt)
      replace o2_3 := o2_3.low hE.size
      replace o2_3 := Ow.lev (lo' := w.heap.size) o2_3 (fun _ _ _ => trivial)
      replace hE := hE.trans e2_3
      replace hB1_0 := hB1_0.ext e2_3
      replace hB1_1 := hB1_1.ext e2_3
      replace hB2_8 := hB2_8.ext e2_3
      refine ⟨⟨hE, hB1_0, hB1_1, trivial⟩, ?_⟩
      refine H_op (i := 4) (by kernel_rfl) rfl rfl (D_call (R_callF Tryz.call94 rfl rfl) (c164 (m) v2_3 ((nmsAt (b) (o) (18))) _ (by first | rfl | omega | exact nmsAt_len _ _ _) (o2_3.ls.lev fun _ _ _ => trivial)) (fun w2_4 e2_4 => ?_))
      replace hE := hE.trans e2_4
      replace hB1_0 := hB1_0.ext e2_4
      replace hB1_1 := hB1_1.ext e2_4
      replace hB2_8 := hB2_8.ext e2_4
      replace o2_3 := o2_3.ext e2_4
      refine ⟨⟨hE, hB1_0, hB1_1, trivial⟩, ?_⟩
      refine H_take (i := 5) rfl (by kernel_rfl) (by kernel_rfl) (by kernel_rfl) rfl pq_cut ⟨hE, hB1_0, hB1_1, trivial⟩ rfl (fun w hw => R_move rfl) ?_
      refine H_take (i := 6) rfl (by kernel_rfl) (by kernel_rfl) (by kernel_rfl) rfl pq_cut ⟨hE, hB1_0, hB1_1, trivial⟩ rfl (fun w hw => R_extract rfl rfl) ?_
      refine H_take (i := 7) rfl (by kernel_rfl) (by kernel_rfl) (by kernel_rfl) rfl pq_cut ⟨hE, hB1_0, hB1_1, trivial⟩ rfl (fun w hw => R_extract rfl rfl) ?_
      have xo2_3 := yv2_3_B2_8
      have h0 := hB2_8
      refine H_op (i := 9) (by kernel_rfl) rfl rfl (D_storeA Tryz.sizeOf29 hB2_8 rfl rfl rfl rfl rfl (l' := ((recN m ((nmsAt (b) (o) (18))))).l) rfl (fun w2_9 k2_9 hB2_8 => ?_))
      have f2_9 := Fb.kp k2_9 (Nat.le_trans (Nat.le_refl _) lB2_8) (Blk.notB h0 rfl)
      replace hE := hE.kp k2_9 lB2_8
      replace hB1_0 := hB1_0.kp k2_9 nB1_0B2_8
      replace hB1_1 := hB1_1.kp k2_9 nB1_1B2_8
      replace o2_3 := o2_3.kp k2_9 xo2_3 f2_9
      refine ⟨⟨hE, hB1_0, hB1_1, trivial⟩, ?_⟩
      refine H_take (i := 10) rfl (by kernel_rfl) (by kernel_rfl) (by kernel_rfl) rfl pq_cut ⟨hE, hB1_0, hB1_1, trivial⟩ rfl (fun w hw => R_assign rfl) ?_
      refine H_done (by kernel_rfl) ?_
      exact ⟨rfl, _, rfl, _, _, rfl, rfl, rfl, rfl, rfl, hE, hB1_0, hB1_1, hB2_8, lB2_8, nB1_0B2_8, nB1_1B2_8, yv2_3_B1_0, yv2_3_B1_1, yv2_3_B2_8⟩
  rintro f2 w2c ⟨v2_3, aB2_8, q0, q1, q2, q8, q9, hE, hB1_0, hB1_1, hB2_8, lB2_8, nB1_0B2_8, nB1_1B2_8, yv2_3_B1_0, yv2_3_B1_1, yv2_3_B2_8⟩
  refine T_tn ?_
  refine wp_seq ?_
  refine W_cut (R := fun g W => ∃ (v3_5 : Value) (aB3_10 : Nat), (g 8 = .pointer (some ⟨aB1_1, 0, none⟩)) ∧ (g 11 = .pointer (some ⟨aB3_10, 0, none⟩)) ∧ Ext w W ∧ Blk W aB1_1 (Nm.zero).l 29 ∧ Blk W aB2_8 ((recN m ((nmsAt (b) (o) (18))))).l 29 ∧ Blk W aB3_10 ((cmp (32) (recN m ((nmsAt (b) (o) (18)))) (j) (32) ((nmsAt (b) ((o + 144)) (5))))).l 29 ∧ w.heap.size ≤ aB3_10 ∧ aB1_1 ≠ aB3_10 ∧ aB2_8 ≠ aB3_10 ∧ Value.ownBlock v3_5 ≠ some aB1_1 ∧ Value.ownBlock v3_5 ≠ some aB2_8 ∧ Value.ownBlock v3_5 ≠ some aB3_10) ?_ ?_
  ·
    refine W_held (fun W => Ext w W ∧ Blk W aB1_1 (Nm.zero).l 29 ∧ Blk W aB2_8 ((recN m ((nmsAt (b) (o) (18))))).l 29 ∧ True) mixed (fun w3_99 e3_99 => ?_)
    replace hE := hE.trans e3_99
    replace hB1_1 := hB1_1.ext e3_99
    replace hB2_8 := hB2_8.ext e3_99
    refine H_take (i := 0) rfl (by kernel_rfl) (by kernel_rfl) (by kernel_rfl) rfl pq_cut ⟨hE, hB1_1, hB2_8, trivial⟩ rfl (fun w hw => R_loadA (c := ((recN m ((nmsAt (b) (o) (18))))).l) Tryz.isAgg29 Tryz.sizeOf29 hw.2.2.1 q9 rfl rfl) ?_
    refine H_take (i := 1) rfl (by kernel_rfl) (by kernel_rfl) (by kernel_rfl) rfl pq_cut ⟨hE, hB1_1, hB2_8, trivial⟩ rfl (fun w hw => R_move q2) ?_
    refine H_take (i := 2) rfl (by kernel_rfl) (by kernel_rfl) (by kernel_rfl) rfl pq_cut ⟨hE, hB1_1, hB2_8, trivial⟩ rfl (fun w hw => R_move q0) ?_
    refine H_take (i := 3) rfl (by kernel_rfl) (by kernel_rfl) (by kernel_rfl) rfl pq_cut ⟨hE, hB1_1, hB2_8, trivial⟩ rfl (fun w hw => R_move q1) ?_
    refine H_take (i := 4) rfl (by kernel_rfl) (by kernel_rfl) (by kernel_rfl) rfl pq_cut ⟨hE, hB1_1, hB2_8, trivial⟩ rfl (fun w hw => R_addN (m := o) (j := 144) rfl rfl (by (try simp only [List.length_take, List.length_drop, List.length_append, List.length_cons, List.length_nil, List.length_replicate, List.length_set, Nm.b_len, be2_len]); omega)) ?_
    refine H_op2 (i := 5) (i2 := 10) (by kernel_rfl) rfl rfl rfl rfl ?_ ?_
    ·
      refine D_callE (R_callF Tryz.call95 rfl rfl) (c165 v (b) ((o + 144)) (5) _ (h.ext hE) (by omega) (by omega) (by omega)) (fun v3_5 w3_5 e3_5 p3_5 => ?_)
      have o3_5 := p3_5
      have yv3_5_B1_1 : Value.ownBlock v3_5 ≠ some aB1_1 := fun hk => absurd (own_ge o3_5.1 hk) (Nat.not_le.2 hB1_1.lt)
      have yv3_5_B2_8 : Value.ownBlock v3_5 ≠ some aB2_8 := fun hk => absurd (own_ge o3_5.1 hk) (Nat.not_le.2 hB2_8.lt)
      replace o3_5 := o3_5.low hE.size
      replace o3_5 := Ow.lev (lo' := w.heap.size) o3_5 (fun _ _ _ => trivial)
      replace hE := hE.trans e3_5
      replace hB1_1 := hB1_1.ext e3_5
      replace hB2_8 := hB2_8.ext e3_5
      refine ⟨⟨hE, hB1_1, hB2_8, trivial⟩, ?_⟩
      refine H_op2 (i := 6) (i2 := 10) (by kernel_rfl) rfl rfl rfl rfl ?_ ?_
      ·
        refine D_call (R_callF Tryz.call96 rfl rfl) (c166s ((recN m ((nmsAt (b) (o) (18))))) (j) (32) v3_5 ((nmsAt (b) ((o + 144)) (5))) _ _ rfl (by omega) (by omega) (by rw [nmsAt_len, dep32 _ (by omega)]) (o3_5.ls.lev fun _ _ _ => trivial)) (fun w3_6 e3_6 => ?_)
        replace hE := hE.trans e3_6
        replace hB1_1 := hB1_1.ext e3_6
        replace hB2_8 := hB2_8.ext e3_6
        replace o3_5 := o3_5.ext e3_6
        refine ⟨⟨hE, hB1_1, hB2_8, trivial⟩, ?_⟩
        refine H_take (i := 7) rfl (by kernel_rfl) (by kernel_rfl) (by kernel_rfl) rfl pq_cut ⟨hE, hB1_1, hB2_8, trivial⟩ rfl (fun w hw => R_move rfl) ?_
        refine H_take (i := 8) rfl (by kernel_rfl) (by kernel_rfl) (by kernel_rfl) rfl pq_cut ⟨hE, hB1_1, hB2_8, trivial⟩ rfl (fun w hw => R_extract rfl rfl) ?_
        refine H_take (i := 9) rfl (by kernel_rfl) (by kernel_rfl) (by kernel_rfl) rfl pq_cut ⟨hE, hB1_1, hB2_8, trivial⟩ rfl (fun w hw => R_extract rfl rfl) ?_
        refine H_op (i := 10) (by kernel_rfl) rfl rfl (D_alloc (c := (Nm.zero).l) Tryz.zeroValue29 rfl (fun aB3_10 w3_10 e3_10 gB3_10 hB3_10 => ?_))
        have lB3_10 := Nat.le_trans hE.size gB3_10
        have nB1_1B3_10 := hB1_1.ne gB3_10
        have nB2_8B3_10 := hB2_8.ne gB3_10
        have yv3_5_B3_10 : Value.ownBlock v3_5 ≠ some aB3_10 := fun hk => absurd (own_lt o3_5.1 hk) (Nat.not_lt.2 gB3_10)
        replace hE := hE.trans e3_10
        replace hB1_1 := hB1_1.ext e3_10
        replace hB2_8 := hB2_8.ext e3_10
        replace o3_5 := o3_5.ext e3_10
        refine ⟨⟨hE, hB1_1, hB2_8, trivial⟩, ?_⟩
        have xo3_5 := yv3_5_B3_10
        have h0 := hB3_10
        refine H_op (i := 11) (by kernel_rfl) rfl rfl (D_storeA Tryz.sizeOf29 hB3_10 rfl rfl rfl rfl rfl (l' := ((cmp (32) (recN m ((nmsAt (b) (o) (18)))) (j) (32) ((nmsAt (b) ((o + 144)) (5))))).l) rfl (fun w3_11 k3_11 hB3_10 => ?_))
        have f3_11 := Fb.kp k3_11 (Nat.le_trans (Nat.le_refl _) lB3_10) (Blk.notB h0 rfl)
        replace hE := hE.kp k3_11 lB3_10
        replace hB1_1 := hB1_1.kp k3_11 nB1_1B3_10
        replace hB2_8 := hB2_8.kp k3_11 nB2_8B3_10
        replace o3_5 := o3_5.kp k3_11 xo3_5 f3_11
        refine ⟨⟨hE, hB1_1, hB2_8, trivial⟩, ?_⟩
        refine H_take (i := 12) rfl (by kernel_rfl) (by kernel_rfl) (by kernel_rfl) rfl pq_cut ⟨hE, hB1_1, hB2_8, trivial⟩ rfl (fun w hw => R_assign rfl) ?_
        refine H_done (by kernel_rfl) ?_
        exact ⟨rfl, _, rfl, _, _, q8, rfl, hE, hB1_1, hB2_8, hB3_10, lB3_10, nB1_1B3_10, nB2_8B3_10, yv3_5_B1_1, yv3_5_B2_8, yv3_5_B3_10⟩
      ·
        refine D_alloc (c := (Nm.zero).l) Tryz.zeroValue29 rfl (fun aB3_10 w3_10 e3_10 gB3_10 hB3_10 => ?_)
        have lB3_10 := Nat.le_trans hE.size gB3_10
        have nB1_1B3_10 := hB1_1.ne gB3_10
        have nB2_8B3_10 := hB2_8.ne gB3_10
        have yv3_5_B3_10 : Value.ownBlock v3_5 ≠ some aB3_10 := fun hk => absurd (own_lt o3_5.1 hk) (Nat.not_lt.2 gB3_10)
        replace hE := hE.trans e3_10
        replace hB1_1 := hB1_1.ext e3_10
        replace hB2_8 := hB2_8.ext e3_10
        replace o3_5 := o3_5.ext e3_10
        refine ⟨⟨hE, hB1_1, hB2_8, trivial⟩, ?_⟩
        refine H_op (i := 6) (by kernel_rfl) rfl rfl (D_call (R_callF Tryz.call96 rfl rfl) (c166s ((recN m ((nmsAt (b) (o) (18))))) (j) (32) v3_5 ((nmsAt (b) ((o + 144)) (5))) _ _ rfl (by omega) (by omega) (by rw [nmsAt_len, dep32 _ (by omega)]) (o3_5.ls.lev fun _ _ _ => trivial)) (fun w3_6 e3_6 => ?_))
        replace hE := hE.trans e3_6
        replace hB1_1 := hB1_1.ext e3_6
        replace hB2_8 := hB2_8.ext e3_6
        replace hB3_10 := hB3_10.ext e3_6
        replace o3_5 := o3_5.ext e3_6
        refine ⟨⟨hE, hB1_1, hB2_8, trivial⟩, ?_⟩
        refine H_take (i := 7) rfl (by kernel_rfl) (by kernel_rfl) (by kernel_rfl) rfl pq_cut ⟨hE, hB1_1, hB2_8, trivial⟩ rfl (fun w hw => R_move rfl) ?_
        refine H_take (i := 8) rfl (by kernel_rfl) (by kernel_rfl) (by kernel_rfl) rfl pq_cut ⟨hE, hB1_1, hB2_8, trivial⟩ rfl (fun w hw => R_extract rfl rfl) ?_
        refine H_take (i := 9) rfl (by kernel_rfl) (by kernel_rfl) (by kernel_rfl) rfl pq_cut ⟨hE, hB1_1, hB2_8, trivial⟩ rfl (fun w hw => R_extract rfl rfl) ?_
        have xo3_5 := yv3_5_B3_10
        have h0 := hB3_10
        refine H_op (i := 11) (by kernel_rfl) rfl rfl (D_storeA Tryz.sizeOf29 hB3_10 rfl rfl rfl rfl rfl (l' := ((cmp (32) (recN m ((nmsAt (b) (o) (18)))) (j) (32) ((nmsAt (b) ((o + 144)) (5))))).l) rfl (fun w3_11 k3_11 hB3_10 => ?_))
        have f3_11 := Fb.kp k3_11 (Nat.le_trans (Nat.le_refl _) lB3_10) (Blk.notB h0 rfl)
        replace hE := hE.kp k3_11 lB3_10
        replace hB1_1 := hB1_1.kp k3_11 nB1_1B3_10
        replace hB2_8 := hB2_8.kp k3_11 nB2_8B3_10
        replace o3_5 := o3_5.kp k3_11 xo3_5 f3_11
        refine ⟨⟨hE, hB1_1, hB2_8, trivial⟩, ?_⟩
        refine H_take (i := 12) rfl (by kernel_rfl) (by kernel_rfl) (by kernel_rfl) rfl pq_cut ⟨hE, hB1_1, hB2_8, trivial⟩ rfl (fun w hw => R_assign rfl) ?_
        refine H_done (by kernel_rfl) ?_
        exact ⟨rfl, _, rfl, _, _, q8, rfl, hE, hB1_1, hB2_8, hB3_10, lB3_10, nB1_1B3_10, nB2_8B3_10, yv3_5_B1_1, yv3_5_B2_8, yv3_5_B3_10⟩
    ·
      refine D_alloc (c := (Nm.zero).l) Tryz.zeroValue29 rfl (fun aB3_10 w3_10 e3_10 gB3_10 hB3_10 => ?_)
      have lB3_10 := Nat.le_trans hE.size gB3_10
      have nB1_1B3_10 := hB1_1.ne gB3_10
      have nB2_8B3_10 := hB2_8.ne gB3_10
      replace hE := hE.trans e3_10
      replace hB1_1 := hB1_1.ext e3_10
      replace hB2_8 := hB2_8.ext e3_10
      refine ⟨⟨hE, hB1_1, hB2_8, trivial⟩, ?_⟩
      refine H_op (i := 5) (by kernel_rfl) rfl rfl (D_callE (R_callF Tryz.call95 rfl rfl) (c165 v (b) ((o + 144)) (5) _ (h.ext hE) (by omega) (by omega) (by omega)) (fun v3_5 w3_5 e3_5 p3_5 => ?_))
      have o3_5 := p3_5
      have yv3_5_B1_1 : Value.ownBlock v3_5 ≠ some aB1_1 := fun hk => absurd (own_ge o3_5.1 hk) (Nat.not_le.2 hB1_1.lt)
      have yv3_5_B2_8 : Value.ownBlock v3_5 ≠ some aB2_8 := fun hk => absurd (own_ge o3_5.1 hk) (Nat.not_le.2 hB2_8.lt)
      have yv3_5_B3_10 : Value.ownBlock v3_5 ≠ some aB3_10 := fun hk => absurd (own_ge o3_5.1 hk) (Nat.not_le.2 hB3_10.lt)
      replace o3_5 := o3_5.low hE.size
      replace o3_5 := Ow.lev (lo' := w.heap.size) o3_5 (fun _ _ _ => trivial)
      replace hE := hE.trans e3_5
      replace hB1_1 := hB1_1.ext e3_5
      replace hB2_8 := hB2_8.ext e3_5
      replace hB3_10 := hB3_10.ext e3_5
      refine ⟨⟨hE, hB1_1, hB2_8, trivial⟩, ?_⟩
      refine H_op (i := 6) (by kernel_rfl) rfl rfl (D_call (R_callF Tryz.call96 rfl rfl) (c166s ((recN m ((nmsAt (b) (o) (18))))) (j) (32) v3_5 ((nmsAt (b) ((o + 144)) (5))) _ _ rfl (by omega) (by omega) (by rw [nmsAt_len, dep32 _ (by omega)]) (o3_5.ls.lev fun _ _ _ => trivial)) (fun w3_6 e3_6 => ?_))
      replace hE := hE.trans e3_6
      replace hB1_1 := hB1_1.ext e3_6
      replace hB2_8 := hB2_8.ext e3_6
      replace hB3_10 := hB3_10.ext e3_6
      replace o3_5 := o3_5.ext e3_6
      refine ⟨⟨hE, hB1_1, hB2_8, trivial⟩, ?_⟩
      refine H_take (i := 7) rfl (by kernel_rfl) (by kernel_rfl) (by kernel_rfl) rfl pq_cut ⟨hE, hB1_1, hB2_8, trivial⟩ rfl (fun w hw => R_move rfl) ?_
      refine H_take (i := 8) rfl (by kernel_rfl) (by kernel_rfl) (by kernel_rfl) rfl pq_cut ⟨hE, hB1_1, hB2_8, trivial⟩ rfl (fun w hw => R_extract rfl rfl) ?_
      refine H_take (i := 9) rfl (by kernel_rfl) (by kernel_rfl) (by kernel_rfl) rfl pq_cut ⟨hE, hB1_1, hB2_8, trivial⟩ rfl (fun w hw => R_extract rfl rfl) ?_
      have xo3_5 := yv3_5_B3_10
      have h0 := hB3_10
      refine H_op (i := 11) (by kernel_rfl) rfl rfl (D_storeA Tryz.sizeOf29 hB3_10 rfl rfl rfl rfl rfl (l' := ((cmp (32) (recN m ((nmsAt (b) (o) (18)))) (j) (32) ((nmsAt (b) ((o + 144)) (5))))).l) rfl (fun w3_11 k3_11 hB3_10 => ?_))
      have f3_11 := Fb.kp k3_11 (Nat.le_trans (Nat.le_refl _) lB3_10) (Blk.notB h0 rfl)
      replace hE := hE.kp k3_11 lB3_10
      replace hB1_1 := hB1_1.kp k3_11 nB1_1B3_10
      replace hB2_8 := hB2_8.kp k3_11 nB2_8B3_10
      replace o3_5 := o3_5.kp k3_11 xo3_5 f3_11
      refine ⟨⟨hE, hB1_1, hB2_8, trivial⟩, ?_⟩
      refine H_take (i := 12) rfl (by kernel_rfl) (by kernel_rfl) (by kernel_rfl) rfl pq_cut ⟨hE, hB1_1, hB2_8, trivial⟩ rfl (fun w hw => R_assign rfl) ?_
      refine H_done (by kernel_rfl) ?_
      exact ⟨rfl, _, rfl, _, _, q8, rfl, hE, hB1_1, hB2_8, hB3_10, lB3_10, nB1_1B3_10, nB2_8B3_10, yv3_5_B1_1, yv3_5_B2_8, yv3_5_B3_10⟩
  rintro f3 w3c ⟨v3_5, aB3_10, q8, q11, hE, hB1_1, hB2_8, hB3_10, lB3_10, nB1_1B3_10, nB2_8B3_10, yv3_5_B1_1, yv3_5_B2_8, yv3_5_B3_10⟩
  refine T_tn ?_
  refine wp_seq ?_
  refine W_region ?_
  refine L (D_v (R_loadA (c := ((cmp (32) (recN m ((nmsAt (b) (o) (18)))) (j) (32) ((nmsAt (b) ((o + 144)) (5))))).l) Tryz.isAgg29 Tryz.sizeOf29 hB3_10 q11 rfl rfl) ?_)
  have h0 := hB1_1
  refine L (D_storeA Tryz.sizeOf29 hB1_1 q8 rfl rfl rfl rfl (l' := ((cmp (32) (recN m ((nmsAt (b) (o) (18)))) (j) (32) ((nmsAt (b) ((o + 144)) (5))))).l) rfl (fun w4_1 k4_1 hB1_1 => ?_))
  replace hE := hE.kp k4_1 lB1_1
  replace hB3_10 := hB3_10.kp k4_1 nB1_1B3_10.symm
  refine S_nil ?_
  refine T_tn ?_
  refine wp_ret ?_
  refine retc (c := ((cmp (32) (recN m ((nmsAt (b) (o) (18)))) (j) (32) ((nmsAt (b) ((o + 144)) (5))))).l) rfl q8 Tryz.isAgg29 Tryz.sizeOf29 hB1_1 rfl rfl ⟨?_, hE⟩
  rfl
set_option maxRecDepth 4000 in
set_option maxHeartbeats 1000000 in
theorem c89_2 (v : Value) (b : List UInt8) (I J : Int) (w : World) (hI : I = 0) (hJ : J = 2) (h : Bs w v b) (hb : 2 ≤ b.length) : Calls Tryz.prog 93 [v, i64 I, i64 J].toArray w (Ret w (.tuple #[.int .u64 (shU (shU 0 (b.getD 0 0)) (b.getD 1 0)), .bool true])) := by
  refine enter Tryz.func93 Tryz.ntmps93 rfl rfl ?_
  have hE := Ext.refl w
  have hbb := h.le
  refine wp_seq ?_
  refine W_region ?_
  refine L (D_v (R_assign rfl) ?_)
  refine L (D_v (R_assign rfl) ?_)
  refine S_nil ?_
  refine T_tn ?_
  refine wp_seq ?_
  refine wp_seq ?_
  refine W_region ?_
  refine L (D_v (R_move rfl) ?_)
  refine L (D_v (R_lssI rfl rfl) ?_)
  refine L (D_v (R_move rfl) ?_)
  refine L (D_g1 rfl rfl (fun hb => R_move rfl) ?_)
  refine L (D_g1 rfl rfl (fun hb => R_gtrI (cgE hb) rfl) ?_)
  refine L (D_v (R_pickO rfl rfl rfl) ?_)
  refine L (D_v (R_move rfl) ?_)
  refine L (D_g1 rfl rfl (fun hb => R_move rfl) ?_)
  refine L (D_g1 rfl rfl (fun hb => R_move rfl) ?_)
  refine L (D_g1 rfl rfl (fun hb => R_move rfl) ?_)
  refine L (D_gc1 rfl rfl (fun hb => R_callF Tryz.call118 (mapv3 (cgE hb) (cgE hb) (cgE hb)) rfl) (fun hb => c115 v b _ _ _ (h.ext hE)) (fun w2_10 e2_10 => ?_))
  replace hE := hE.trans e2_10
  refine L (D_g1 rfl rfl (fun hb => R_not (cgE hb)) ?_)
  refine L (D_v (R_pickO rfl rfl rfl) ?_)
  refine S_nil ?_
  refine T_tn ?_
  refine W_if rfl (fun c1 => ?_) (fun c1 => ?_)
  ·
    subst hI hJ
    exfalso; revert c1; generalize b.length = m at *; simp [IntKind.wrap_i64]; omega
  ·
    subst hI hJ
    refine wp_skip ?_
    refine T_tn ?_
    refine wp_seq ?_
    refine W_region ?_
    refine L (D_v (R_assign rfl) ?_)
    refine S_nil ?_
    refine T_tn ?_
    refine wp_seq ?_
    refine wp_seq ?_
    refine W_region ?_
    refine L (D_v (R_move rfl) ?_)
    refine L (D_v (R_move rfl) ?_)
    refine L (D_v (R_move rfl) ?_)
    refine L (D_v (R_move rfl) ?_)
    refine L (D_v (R_cast (v' := .int .i64 (2)) (R_addI rfl rfl) rfl) ?_)
    refine L (D_v (R_sliceLH (i := 0) (j := 2) Tryz.underlying32 Tryz.sizeOf5 rfl rfl rfl (h.ext hE) (by (try simp only [List.length_take, List.length_drop, List.length_append, List.length_cons, List.length_nil, List.length_replicate, List.length_set, Nm.b_len, be2_len]); omega) (by (try simp only [List.length_take, List.length_drop, List.length_append, List.length_cons, List.length_nil, List.length_replicate, List.length_set, Nm.b_len, be2_len]); omega)) ?_)
    refine L (D_v (R_len Tryz.underlying32 rfl ((h.ext hE).cut (by (try simp only [List.length_take, List.length_drop, List.length_append, List.length_cons, List.length_nil, List.length_replicate, List.length_set, Nm.b_len, be2_len]); omega) (by (try simp only [List.length_take, List.length_drop, List.length_append, List.length_cons, List.length_nil, List.length_replicate, List.length_set, Nm.b_len, be2_len]); omega))) ?_)
    refine L (D_v (R_move rfl) ?_)
    refine S_nil ?_
    refine T_tn ?_
    refine wp_block ?_
    refine W_unroll 3 ?_
    refine W_round ?_
    refine wp_seq ?_
    refine W_region ?_
    refine L (D_v (R_lssI rfl rfl) ?_)
    refine S_nil ?_
    refine T_tn ?_
    refine wp_seq ?_
    refine W_if rfl (fun c2 => ?_) (fun c2 => ?_)
    ·
      refine wp_skip ?_
      refine T_tn ?_
      refine wp_seq ?_
      refine wp_block ?_
      refine wp_seq ?_
      refine W_region ?_
      refine L (D_v (R_elAddr (i := 0) Tryz.underlying32 Tryz.sizeOf5 rfl rfl ((h.ext hE).cut (by (try simp only [List.length_take, List.length_drop, List.length_append, List.length_cons, List.length_nil, List.length_replicate, List.length_set, Nm.b_len, be2_len]); omega) (by (try simp only [List.length_take, List.length_drop, List.length_append, List.length_cons, List.length_nil, List.length_replicate, List.length_set, Nm.b_len, be2_len]); omega)) (by (try simp only [List.length_take, List.length_drop, List.length_append, List.length_cons, List.length_nil, List.length_replicate, List.length_set, Nm.b_len, be2_len]); omega)) ?_)
      refine L (D_v (R_loadEl (u := u8 ((((((b).drop (0)).take (2 - 0))).getD 0 0))) Tryz.isAgg5 rfl ((h.ext hE).cut (by (try simp only [List.length_take, List.length_drop, List.length_append, List.length_cons, List.length_nil, List.length_replicate, List.length_set, Nm.b_len, be2_len]); omega) (by (try simp only [List.length_take, List.length_drop, List.length_append, List.length_cons, List.length_nil, List.length_replicate, List.length_set, Nm.b_len, be2_len]); omega)) (bl_get (by (try simp only [List.length_take, List.length_drop, List.length_append, List.length_cons, List.length_nil, List.length_replicate, List.length_set, Nm.b_len, be2_len]); omega))) ?_)
      refine L (D_v (R_assign rfl) ?_)
      refine S_nil ?_
      refine T_tn ?_
      refine W_region ?_
      refine L (D_v (R_move rfl) ?_)
      refine L (D_v (R_shlC (z := 8) rfl rfl (by decide) (by decide)) ?_)
      refine L (D_v (R_move rfl) ?_)
      refine L (D_v (R_convU (b := (((((b).drop (0)).take (2 - 0))).getD 0 0)) Tryz.runUnderlying45 (by decide) rfl) ?_)
      refine L (D_v (R_orI rfl rfl) ?_)
      refine L (D_v (R_assign rfl) ?_)
      refine S_nil ?_
      refine T_bn ?_
      refine T_tn ?_
      refine W_region ?_
      refine L (D_v (R_cast (v' := .int .i64 (1)) (R_addI rfl rfl) rfl) ?_)
      refine L (D_v (R_move rfl) ?_)
      refine S_nil ?_
      refine T_tn ?_
      refine W_round ?_
      refine wp_seq ?_
      refine W_region ?_
      refine L (D_v (R_lssI rfl rfl) ?_)
      refine S_nil ?_
      refine T_tn ?_
      refine wp_seq ?_
      refine W_if rfl (fun c3 => ?_) (fun c3 => ?_)
      ·
        refine wp_skip ?_
        refine T_tn ?_
        refine wp_seq ?_
        refine wp_block ?_
        refine wp_seq ?_
        refine W_region ?_
        refine L (D_v (R_elAddr (i := 1) Tryz.underlying32 Tryz.sizeOf5 rfl rfl ((h.ext hE).cut (by (try simp only [List.length_take, List.length_drop, List.length_append, List.length_cons, List.length_nil, List.length_replicate, List.length_set, Nm.b_len, be2_len]); omega) (by (try simp only [List.length_take, List.length_drop, List.length_append, List.length_cons, List.length_nil, List.length_replicate, List.length_set, Nm.b_len, be2_len]); omega)) (by (try simp only [List.length_take, List.length_drop, List.length_append, List.length_cons, List.length_nil, List.length_replicate, List.length_set, Nm.b_len, be2_len]); omega)) ?_)
        refine L (D_v (R_loadEl (u := u8 ((((((b).drop (0)).take (2 - 0))).getD 1 0))) Tryz.isAgg5 rfl ((h.ext hE).cut (by (try simp only [List.length_take, List.length_drop, List.length_append, List.length_cons, List.length_nil, List.length_replicate, List.length_set, Nm.b_len, be2_len]); omega) (by (try simp only [List.length_take, List.length_drop, List.length_append, List.length_cons, List.length_nil, List.length_replicate, List.length_set, Nm.b_len, be2_len]); omega)) (bl_get (by (try simp only [List.length_take, List.length_drop, List.length_append, List.length_cons, List.length_nil, List.length_replicate, List.length_set, Nm.b_len, be2_len]); omega))) ?_)
        refine L (D_v (R_assign rfl) ?_)
        refine S_nil ?_
        refine T_tn ?_
        refine W_region ?_
        refine L (D_v (R_move rfl) ?_)
        refine L (D_v (R_shlC (z := 8) rfl rfl (by decide) (by decide)) ?_)
        refine L (D_v (R_move rfl) ?_)
        refine L (D_v (R_convU (b := (((((b).drop (0)).take (2 - 0))).getD 1 0)) Tryz.runUnderlying45 (by decide) rfl) ?_)
        refine L (D_v (R_orI rfl rfl) ?_)
        refine L (D_v (R_assign rfl) ?_)
        refine S_nil ?_
        refine T_bn ?_
        refine T_tn ?_
        refine W_region ?_
        refine L (D_v (R_cast (v' := .int .i64 (2)) (R_addI rfl rfl) rfl) ?_)
        refine L (D_v (R_move rfl) ?_)
        refine S_nil ?_
        refine T_tn ?_
        refine W_round ?_
        refine wp_seq ?_
        refine W_region ?_
        refine L (D_v (R_lssI rfl rfl) ?_)
        refine S_nil ?_
        refine T_tn ?_
        refine wp_seq ?_
        refine W_if rfl (fun c4 => ?_) (fun c4 => ?_)
        ·
          exfalso; have h1 := of_decide_eq_true c4; simp only [List.length_take, List.length_drop] at h1; omega
        ·
          refine wp_exit ?_
          refine T_te ?_
          refine T_te ?_
          refine T_be ?_
          refine T_tn ?_
          refine wp_seq ?_
          refine W_region ?_
          refine L (D_v (R_move rfl) ?_)
          refine L (D_v (R_assign rfl) ?_)
          refine L (D_v (R_assign rfl) ?_)
          refine S_nil ?_
          refine T_tn ?_
          refine wp_ret ?_
          refine ret2 (v := .int _ _) (v2 := .bool _) rfl rfl rfl ⟨?_, hE⟩
          have e0 : (((b).drop (0)).take (2 - 0)).getD 0 0 = b.getD 0 0 := by simp [List.getD]
          have e1 : (((b).drop (0)).take (2 - 0)).getD 1 0 = b.getD 1 0 := by simp [List.getD]
          rw [e0, e1]; rfl
      ·
        exfalso; have h1 := of_decide_eq_false c3; simp only [List.length_take, List.length_drop] at h1; omega
    ·
      exfalso; have h1 := of_decide_eq_false c2; simp only [List.length_take, List.length_drop] at h1; omega
set_option maxRecDepth 4000 in
set_option maxHeartbeats 1000000 in
theorem c89_s (v : Value) (b : List UInt8) (I J : Int) (w : World) (hI : I = 0) (hJ : J = 2) (h : Bs w v b) (hb : b.length < 2) : Calls Tryz.prog 93 [v, i64 I, i64 J].toArray w (Ret w (.tuple #[.int .u64 0, .bool false])) := by
  refine enter Tryz.func93 Tryz.ntmps93 rfl rfl ?_
  have hE := Ext.refl w
  have hbb := h.le
  refine wp_seq ?_
  refine W_region ?_
  refine L (D_v (R_assign rfl) ?_)
  refine L (D_v (R_assign rfl) ?_)
  refine S_nil ?_
  refine T_tn ?_
  refine wp_seq ?_
  refine wp_seq ?_
  refine W_region ?_
  refine L (D_v (R_move rfl) ?_)
  refine L (D_v (R_lssI rfl rfl) ?_)
  refine L (D_v (R_move rfl) ?_)
  refine L (D_g1 rfl rfl (fun hb => R_move rfl) ?_)
  refine L (D_g1 rfl rfl (fun hb => R_gtrI (cgE hb) rfl) ?_)
  refine L (D_v (R_pickO rfl rfl rfl) ?_)
  refine L (D_v (R_move rfl) ?_)
  refine L (D_g1 rfl rfl (fun hb => R_move rfl) ?_)
  refine L (D_g1 rfl rfl (fun hb => R_move rfl) ?_)
  refine L (D_g1 rfl rfl (fun hb => R_move rfl) ?_)
  refine L (D_gc1 rfl rfl (fun hb => R_callF Tryz.call118 (mapv3 (cgE hb) (cgE hb) (cgE hb)) rfl) (fun hb => c115 v b _ _ _ (h.ext hE)) (fun w2_10 e2_10 => ?_))
  replace hE := hE.trans e2_10
  refine L (D_g1 rfl rfl (fun hb => R_not (cgE hb)) ?_)
  refine L (D_v (R_pickO rfl rfl rfl) ?_)
  refine S_nil ?_
  refine T_tn ?_
  refine W_if rfl (fun c1 => ?_) (fun c1 => ?_)
  ·
    subst hI hJ
    refine wp_seq ?_
    refine W_region ?_
    refine L (D_v (R_assign rfl) ?_)
    refine L (D_v (R_assign rfl) ?_)
    refine S_nil ?_
    refine T_tn ?_
    refine wp_ret ?_
    refine T_tr ?_
    refine ret2 (v := .int _ _) (v2 := .bool _) rfl rfl rfl ⟨?_, hE⟩
    rfl
  ·
    subst hI hJ
    exfalso; revert c1; generalize b.length = m at *; simp [IntKind.wrap_i64]; omega
set_option maxRecDepth 4000 in
set_option maxHeartbeats 1000000 in
theorem c133_s (v : Value) (b : List UInt8) (w : World) (h : Bs w v b) (hb : b.length < 2) : Calls Tryz.prog 65 [v].toArray w (Ret w (.tuple #[i64 0, .bool false])) := by
  refine enter Tryz.func65 Tryz.ntmps65 rfl rfl ?_
  have hE := Ext.refl w
  refine wp_seq ?_
  refine W_region ?_
  refine L (D_v (R_assign rfl) ?_)
  refine L (D_v (R_assign rfl) ?_)
  refine S_nil ?_
  refine T_tn ?_
  refine wp_seq ?_
  refine W_region ?_
  refine L (D_v (R_move rfl) ?_)
  refine L (D_call (R_callF Tryz.call93 rfl rfl) (c89_s v (b) 0 2 _ rfl rfl (h.ext hE) (by omega)) (fun w2_1 e2_1 => ?_))
  replace hE := hE.trans e2_1
  refine L (D_v (R_move rfl) ?_)
  refine L (D_v (R_extract rfl rfl) ?_)
  refine L (D_v (R_extract rfl rfl) ?_)
  refine L (D_v (R_assign rfl) ?_)
  refine L (D_v (R_assign rfl) ?_)
  refine S_nil ?_
  refine T_tn ?_
  refine wp_seq ?_
  refine W_region ?_
  refine L (D_v (R_move rfl) ?_)
  refine L (D_v (R_conv Tryz.runUnderlying45 Tryz.runUnderlying3 rfl) ?_)
  refine L (D_v (R_move rfl) ?_)
  refine L (D_v (R_assign rfl) ?_)
  refine L (D_v (R_assign rfl) ?_)
  refine S_nil ?_
  refine T_tn ?_
  refine wp_ret ?_
  refine ret2 (v := .int _ _) (v2 := .bool _) rfl rfl rfl ⟨?_, hE⟩
  rfl
set_option maxRecDepth 4000 in
set_option maxHeartbeats 1000000 in
theorem c133_2 (v : Value) (b : List UInt8) (w : World) (h : Bs w v b) (hb : 2 ≤ b.length) : Calls Tryz.prog 65 [v].toArray w (Ret w (.tuple #[i64 ((leafNo b : Nat) : Int), .bool true])) := by
  refine enter Tryz.func65 Tryz.ntmps65 rfl rfl ?_
  have hE := Ext.refl w
  refine wp_seq ?_
  refine W_region ?_
  refine L (D_v (R_assign rfl) ?_)
  refine L (D_v (R_assign rfl) ?_)
  refine S_nil ?_
  refine T_tn ?_
  refine wp_seq ?_
  refine W_region ?_
  refine L (D_v (R_move rfl) ?_)
  refine L (D_call (R_callF Tryz.call93 rfl rfl) (c89_2 v (b) 0 2 _ rfl rfl (h.ext hE) (by omega)) (fun w2_1 e2_1 => ?_))
  replace hE := hE.trans e2_1
  refine L (D_v (R_move rfl) ?_)
  refine L (D_v (R_extract rfl rfl) ?_)
  refine L (D_v (R_extract rfl rfl) ?_)
  refine L (D_v (R_assign rfl) ?_)
  refine L (D_v (R_assign rfl) ?_)
  refine S_nil ?_
  refine T_tn ?_
  refine wp_seq ?_
  refine W_region ?_
  refine L (D_v (R_move rfl) ?_)
  refine L (D_v (R_conv Tryz.runUnderlying45 Tryz.runUnderlying3 rfl) ?_)
  refine L (D_v (R_move rfl) ?_)
  refine L (D_v (R_assign rfl) ?_)
  refine L (D_v (R_assign rfl) ?_)
  refine S_nil ?_
  refine T_tn ?_
  refine wp_ret ?_
  refine ret2 (v := .int _ _) (v2 := .bool _) rfl rfl rfl ⟨?_, hE⟩
  have e : IntKind.wrap .i64 (shU (shU 0 ((b).getD 0 0)) ((b).getD 1 0)) = ((leafNo b : Nat) : Int) := by rw [sup1]; unfold leafNo; omega
  rw [e]; rfl
set_option maxRecDepth 4000 in
set_option maxHeartbeats 2000000 in
theorem c105_s (pub m : Nm) (v : Value) (b : List UInt8) (OK : Bool) (w : World) (hok : OK = false) (h : Bs w v b) (hb : b.length < 2) : Calls Tryz.prog 39 [pub.v, i64 2, m.v, v].toArray w (Ret w (.bool (ver pub m b))) := by
  refine enter Tryz.func39 Tryz.ntmps39 rfl rfl ?_
  have hE := Ext.refl w
  refine wp_seq ?_
  refine W_region ?_
  refine L (D_box (c := (pub).l) (rfl) (fun aB1_0 w1_0 e1_0 gB1_0 hB1_0 => ?_))
  have lB1_0 := Nat.le_trans hE.size gB1_0
  replace hE := hE.trans e1_0
  refine L (D_box (c := (m).l) (rfl) (fun aB1_1 w1_1 e1_1 gB1_1 hB1_1 => ?_))
  have lB1_1 := Nat.le_trans hE.size gB1_1
  have nB1_0B1_1 := hB1_0.ne gB1_1
  replace hE := hE.trans e1_1
  replace hB1_0 := hB1_0.ext e1_1
  refine L (D_v (R_assign rfl) ?_)
  refine S_nil ?_
  refine T_tn ?_
  refine wp_seq ?_
  refine W_region ?_
  refine L (D_v (R_move rfl) ?_)
  refine L (D_call (R_callF Tryz.call65 rfl rfl) ((hok ▸ c133_s v (b) _ (h.ext hE) (by omega))) (fun w2_1 e2_1 => ?_))
  replace hE := hE.trans e2_1
  replace hB1_0 := hB1_0.ext e2_1
  replace hB1_1 := hB1_1.ext e2_1
  refine L (D_v (R_move rfl) ?_)
  refine L (D_v (R_extract rfl rfl) ?_)
  refine L (D_v (R_extract rfl rfl) ?_)
  refine L (D_v (R_assign rfl) ?_)
  refine L (D_v (R_assign rfl) ?_)
  refine S_nil ?_
  refine T_tn ?_
  refine wp_seq ?_
  refine wp_seq ?_
  refine W_region ?_
  refine L (D_v (R_move rfl) ?_)
  refine L (D_v (R_not rfl) ?_)
  refine L (D_v (R_move rfl) ?_)
  refine L (D_g1 rfl rfl (fun hb => R_move rfl) ?_)
  refine L (D_g1 rfl rfl (fun hb => R_len Tryz.underlying32 (cgE hb) (h.ext hE)) ?_)
  refine L (D_g1 rfl rfl (fun hb => R_move rfl) ?_)
  refine L (D_gc1 rfl rfl (fun hb => R_callF Tryz.call66 (mapv1 (cgE hb)) rfl) (fun hb => c101 _) (fun w3_6 e3_6 => ?_))
  replace hE := hE.trans e3_6
  replace hB1_0 := hB1_0.ext e3_6
  replace hB1_1 := hB1_1.ext e3_6
  refine L (D_g1 rfl rfl (fun hb => R_neqI (cgE hb) (cgE hb)) ?_)
  refine L (D_v (R_pickO rfl rfl rfl) ?_)
  refine L (D_v (R_move rfl) ?_)
  refine L (D_g1 rfl rfl (fun hb => R_move rfl) ?_)
  refine L (D_g1 rfl rfl (fun hb => R_move rfl) ?_)
  refine L (D_gc1 rfl rfl (fun hb => R_callF Tryz.call67 (mapv1 (cgE hb)) rfl) (fun hb => c98_2 _) (fun w3_12 e3_12 => ?_))
  replace hE := hE.trans e3_12
  replace hB1_0 := hB1_0.ext e3_12
  replace hB1_1 := hB1_1.ext e3_12
  refine L (D_g1 rfl rfl (fun hb => R_geqI (cgE hb) (cgE hb)) ?_)
  refine L (D_v (R_pickO rfl rfl rfl) ?_)
  refine S_nil ?_
  refine T_tn ?_
  refine W_if rfl (fun c1 => ?_) (fun c1 => ?_)
  ·
    subst hok
    refine wp_seq ?_
    refine W_region ?_
    refine L (D_v (R_assign rfl) ?_)
    refine S_nil ?_
    refine T_tn ?_
    refine wp_ret ?_
    refine T_tr ?_
    refine ret1 (v := .bool _) rfl rfl ⟨congrArg (fun b => Ending.returned (Value.bool b)) ?_, hE⟩
    unfold ver; rw [decide_eq_false (by omega)]; rfl
  ·
    exfalso; subst hok; simp at c1
set_option maxRecDepth 4000 in
set_option maxHeartbeats 2000000 in
theorem c105_2 (pub m : Nm) (v : Value) (b : List UInt8) (OK : Bool) (w : World) (hok : OK = true) (h : Bs w v b) (hb : 2 ≤ b.length) : Calls Tryz.prog 39 [pub.v, i64 2, m.v, v].toArray w (Ret w (.bool (ver pub m b))) := by
  refine enter Tryz.func39 Tryz.ntmps39 rfl rfl ?_
  have hE := Ext.refl w
  refine wp_seq ?_
  refine W_region ?_
  refine L (D_box (c := (pub).l) (rfl) (fun aB1_0 w1_0 e1_0 gB1_0 hB1_0 => ?_))
  have lB1_0 := Nat.le_trans hE.size gB1_0
  replace hE := hE.trans e1_0
  refine L (D_box (c := (m).l) (rfl) (fun aB1_1 w1_1 e1_1 gB1_1 hB1_1 => ?_))
  have lB1_1 := Nat.le_trans hE.size gB1_1
  have nB1_0B1_1 := hB1_0.ne gB1_1
  replace hE := hE.trans e1_1
  replace hB1_0 := hB1_0.ext e1_1
  refine L (D_v (R_assign rfl) ?_)
  refine S_nil ?_
  refine T_tn ?_
  refine wp_seq ?_
  refine W_region ?_
  refine L (D_v (R_move rfl) ?_)
  refine L (D_call (R_callF Tryz.call65 rfl rfl) ((hok ▸ c133_2 v (b) _ (h.ext hE) (by omega))) (fun w2_1 e2_1 => ?_))
  replace hE := hE.trans e2_1
  replace hB1_0 := hB1_0.ext e2_1
  replace hB1_1 := hB1_1.ext e2_1
  refine L (D_v (R_move rfl) ?_)
  refine L (D_v (R_extract rfl rfl) ?_)
  refine L (D_v (R_extract rfl rfl) ?_)
  refine L (D_v (R_assign rfl) ?_)
  refine L (D_v (R_assign rfl) ?_)
  refine S_nil ?_
  refine T_tn ?_
  refine wp_seq ?_
  refine wp_seq ?_
  refine W_region ?_
  refine L (D_v (R_move rfl) ?_)
  refine L (D_v (R_not rfl) ?_)
  refine L (D_v (R_move rfl) ?_)
  refine L (D_g1 rfl rfl (fun hb => R_move rfl) ?_)
  refine L (D_g1 rfl rfl (fun hb => R_len Tryz.underlying32 (cgE hb) (h.ext hE)) ?_)
  refine L (D_g1 rfl rfl (fun hb => R_move rfl) ?_)
  refine L (D_gc1 rfl rfl (fun hb => R_callF Tryz.call66 (mapv1 (cgE hb)) rfl) (fun hb => c101 _) (fun w3_6 e3_6 => ?_))
  replace hE := hE.trans e3_6
  replace hB1_0 := hB1_0.ext e3_6
  replace hB1_1 := hB1_1.ext e3_6
  refine L (D_g1 rfl rfl (fun hb => R_neqI (cgE hb) (cgE hb)) ?_)
  refine L (D_v (R_pickO rfl rfl rfl) ?_)
  refine L (D_v (R_move rfl) ?_)
  refine L (D_g1 rfl rfl (fun hb => R_move rfl) ?_)
  refine L (D_g1 rfl rfl (fun hb => R_move rfl) ?_)
  refine L (D_gc1 rfl rfl (fun hb => R_callF Tryz.call67 (mapv1 (cgE hb)) rfl) (fun hb => c98_2 _) (fun w3_12 e3_12 => ?_))
  replace hE := hE.trans e3_12
  replace hB1_0 := hB1_0.ext e3_12
  replace hB1_1 := hB1_1.ext e3_12
  refine L (D_g1 rfl rfl (fun hb => R_geqI (cgE hb) (cgE hb)) ?_)
  refine L (D_v (R_pickO rfl rfl rfl) ?_)
  refine S_nil ?_
  refine T_tn ?_
  refine W_if rfl (fun c1 => ?_) (fun c1 => ?_)
  ·
    subst hok
    have hv : ¬ (b.length = 370 ∧ leafNo b < 1024) := by simp at c1; omega
    refine wp_seq ?_
    refine W_region ?_
    refine L (D_v (R_assign rfl) ?_)
    refine S_nil ?_
    refine T_tn ?_
    refine wp_ret ?_
    refine T_tr ?_
    refine ret1 (v := .bool _) rfl rfl ⟨congrArg (fun b => Ending.returned (Value.bool b)) ?_, hE⟩
    unfold ver; cases hl : decide (b.length = 370) with
    | false => rfl
    | true => rw [decide_eq_false (show ¬ leafNo b < 1024 from fun h => hv ⟨of_decide_eq_true hl, h⟩)]; rfl
  ·
    subst hok
    have hv : b.length = 370 ∧ leafNo b < 1024 := by simp at c1; omega
    refine wp_skip ?_
    refine T_tn ?_
    refine wp_seq ?_
    refine W_region ?_
    refine L (D_v (R_move rfl) ?_)
    refine L (D_v (R_move rfl) ?_)
    refine L (D_v (R_remN (m := (leafNo (b))) (j := 32) rfl rfl (by decide) (by (try simp only [List.length_take, List.length_drop, List.length_append, List.length_cons, List.length_nil, List.length_replicate, List.length_set, Nm.b_len, be2_len]); omega)) ?_)
    refine L (D_v (R_loadA (c := (m).l) Tryz.isAgg29 Tryz.sizeOf29 hB1_1 rfl rfl rfl) ?_)
    refine L (D_call (R_callF Tryz.call68 rfl rfl) (c134 v (b) (2) (((leafNo (b)) % 32)) (m) _ (h.ext hE) (by omega) (by omega) (by omega)) (fun w4_4 e4_4 => ?_))
    replace hE := hE.trans e4_4
    replace hB1_0 := hB1_0.ext e4_4
    replace hB1_1 := hB1_1.ext e4_4
    refine L (D_alloc (c := (Nm.zero).l) Tryz.zeroValue29 rfl (fun aB4_5 w4_5 e4_5 gB4_5 hB4_5 => ?_))
    have lB4_5 := Nat.le_trans hE.size gB4_5
    have nB1_0B4_5 := hB1_0.ne gB4_5
    have nB1_1B4_5 := hB1_1.ne gB4_5
    replace hE := hE.trans e4_5
    replace hB1_0 := hB1_0.ext e4_5
    replace hB1_1 := hB1_1.ext e4_5
    have h0 := hB4_5
    refine L (D_storeA Tryz.sizeOf29 hB4_5 rfl rfl rfl rfl rfl (l' := ((clim (b) (2) (((leafNo (b)) % 32)) m)).l) rfl (fun w4_6 k4_6 hB4_5 => ?_))
    replace hE := hE.kp k4_6 lB4_5
    replace hB1_0 := hB1_0.kp k4_6 nB1_0B4_5
    replace hB1_1 := hB1_1.kp k4_6 nB1_1B4_5
    refine S_nil ?_
    refine T_tn ?_
    refine wp_seq ?_
    refine wp_seq ?_
    refine W_region ?_
    refine L (D_v (R_move rfl) ?_)
    refine L (D_v (R_cast (v' := .bool true) (R_eqlI rfl rfl) rfl) ?_)
    refine S_nil ?_
    refine T_tn ?_
    refine W_ift rfl ?_
    refine W_region ?_
    refine L (D_v (R_move rfl) ?_)
    refine L (D_v (R_move rfl) ?_)
    refine L (D_v (R_quoN (m := (leafNo (b))) (j := 32) rfl rfl (by decide) (by (try simp only [List.length_take, List.length_drop, List.length_append, List.length_cons, List.length_nil, List.length_replicate, List.length_set, Nm.b_len, be2_len]); omega)) ?_)
    refine L (D_v (R_loadA (c := ((clim (b) (2) (((leafNo (b)) % 32)) m)).l) Tryz.isAgg29 Tryz.sizeOf29 hB4_5 rfl rfl rfl) ?_)
    refine L (D_call (R_callF Tryz.call68 rfl rfl) (c134 v (b) (186) (((leafNo (b)) / 32)) ((clim (b) (2) (((leafNo (b)) % 32)) m)) _ (h.ext hE) (by omega) (by omega) (by omega)) (fun w6_4 e6_4 => ?_))
    replace hE := hE.trans e6_4
    replace hB1_0 := hB1_0.ext e6_4
    replace hB4_5 := hB4_5.ext e6_4
    have h0 := hB4_5
    refine L (D_storeA Tryz.sizeOf29 hB4_5 rfl rfl rfl rfl rfl (l' := ((clim (b) (186) (((leafNo (b)) / 32)) (clim (b) (2) (((leafNo (b)) % 32)) m))).l) rfl (fun w6_5 k6_5 hB4_5 => ?_))
    replace hE := hE.kp k6_5 lB4_5
    replace hB1_0 := hB1_0.kp k6_5 nB1_0B4_5
    refine S_nil ?_
    refine T_tn ?_
    refine wp_seq ?_
    refine W_region ?_
    refine L (D_v (R_loadA (c := ((clim (b) (186) (((leafNo (b)) / 32)) (clim (b) (2) (((leafNo (b)) % 32)) m))).l) Tryz.isAgg29 Tryz.sizeOf29 hB4_5 rfl rfl rfl) ?_)
    refine L (D_v (R_loadA (c := (pub).l) Tryz.isAgg29 Tryz.sizeOf29 hB1_0 rfl rfl rfl) ?_)
    refine L (D_v (R_eqlA Tryz.eqGuardType29 (eq24 ((clim (b) (186) (((leafNo (b)) / 32)) (clim (b) (2) (((leafNo (b)) % 32)) m))) (pub) _) rfl rfl) ?_)
    refine L (D_v (R_assign rfl) ?_)
    refine S_nil ?_
    refine T_tn ?_
    refine wp_ret ?_
    refine ret1 (v := .bool _) rfl rfl ⟨congrArg (fun b => Ending.returned (Value.bool b)) ?_, hE⟩
    unfold ver; rw [decide_eq_true hv.1, decide_eq_true hv.2]; rfl
theorem c105 (pub m : Nm) (v : Value) (b : List UInt8) (w : World) (h : Bs w v b) : Calls Tryz.prog 39 [pub.v, i64 2, m.v, v].toArray w (Ret w (.bool (ver pub m b))) := by
  by_cases hb : b.length < 2
  · exact c105_s pub m v b _ w rfl h hb
  · exact c105_2 pub m v b _ w rfl h (by omega)
end Go.Proofs.YteeopgpgbdhmhaaGreat
