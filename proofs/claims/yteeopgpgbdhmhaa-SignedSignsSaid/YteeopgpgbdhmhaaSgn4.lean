/- What the law needs, part 4. No condition. -/
import Derived.Deep.DeepAppendWide
import Derived.Test.YteeopgpgbdhmhaaSgn3
namespace Go.Proofs.Yteeopgpgbdhmhaa
open Go.RowKit
set_option linter.unusedVariables false
set_option linter.unusedSimpArgs false
attribute [local irreducible] wpList wpO H wpQuiet wpStill Code.wp Exit.then Exit.inBlock bodyPost Code.rounds Calls valid lessV hless num between
set_option maxRecDepth 4000 in
set_option maxHeartbeats 4000000 in
theorem c178 (m : Nm) (w : World) : Calls Try.prog 178 [m.v].toArray w (RetE w fun r w' => Ow cI w.heap.size w.heap.size w' r (digits m)) := by
  refine enter Try.func178 Try.ntmps178 rfl rfl ?_
  have hE := Ext.refl w
  have hb0 := m.b0.toNat_lt
  have hb1 := m.b1.toNat_lt
  have hb2 := m.b2.toNat_lt
  have hb3 := m.b3.toNat_lt
  have hb4 := m.b4.toNat_lt
  have hb5 := m.b5.toNat_lt
  have hb6 := m.b6.toNat_lt
  have hb7 := m.b7.toNat_lt
  refine wp_seq ?_
  refine W_region ?_
  refine L (D_box (c := (m).l) (rfl) (fun aB1_0 w1_0 e1_0 gB1_0 hB1_0 => ?_))
  have lB1_0 := Nat.le_trans hE.size gB1_0
  replace hE := hE.trans e1_0
  refine L (D_v (R_assign rfl) ?_)
  refine S_nil ?_
  refine T_tn ?_
  refine wp_seq ?_
  refine W_region ?_
  refine L (D_makeL (C := cI) (lo := w.heap.size) (l := 0) (c := 18) mk3 Try.underlying161 rfl rfl (by (try simp only [List.length_take, List.length_drop, List.length_append, List.length_cons, List.length_nil, List.length_replicate, List.length_set, Nm.b_len, be2_len]); omega) (by (try simp only [List.length_take, List.length_drop, List.length_append, List.length_cons, List.length_nil, List.length_replicate, List.length_set, Nm.b_len, be2_len]); omega) (by (try simp only [List.length_take, List.length_drop, List.length_append, List.length_cons, List.length_nil, List.length_replicate, List.length_set, Nm.b_len, be2_len]); omega) (fun v2_0 w2_0 o2_0 e2_0 => ?_))
  replace o2_0 := o2_0.low hE.size
  replace hE := hE.trans e2_0
  replace hB1_0 := hB1_0.ext e2_0
  refine L (D_v (R_assign rfl) ?_)
  refine S_nil ?_
  refine T_tn ?_
  refine wp_seq ?_
  refine W_region ?_
  refine L (D_v (R_assign rfl) ?_)
  refine S_nil ?_
  refine T_tn ?_
  refine wp_seq ?_
  refine wp_seq ?_
  refine W_region ?_
  refine L (D_v (R_loadA (c := (m).l) Try.isAgg24 Try.sizeOf24 hB1_0 rfl rfl rfl) ?_)
  refine L (D_v (R_move rfl) ?_)
  refine S_nil ?_
  refine T_tn ?_
  refine wp_block ?_
  refine W_unroll 8 ?_
  refine W_round ?_
  refine wp_seq ?_
  refine W_region ?_
  refine L (D_v (R_cast (v' := .bool true) (R_lssI rfl rfl) rfl) ?_)
  refine S_nil ?_
  refine T_tn ?_
  refine wp_seq ?_
  refine W_ift rfl ?_
  refine wp_skip ?_
  refine T_tn ?_
  refine wp_seq ?_
  refine wp_block ?_
  refine wp_seq ?_
  refine W_region ?_
  refine L (D_v (R_index Try.runUnderlying24 Try.sizeOf5 Try.isAgg5 rfl rfl rfl (by decide) (by decide)) ?_)
  refine L (D_v (R_assign rfl) ?_)
  refine S_nil ?_
  refine T_tn ?_
  refine wp_seq ?_
  refine W_region ?_
  refine L (D_v (R_move rfl) ?_)
  refine L (D_v (R_shrB rfl rfl) ?_)
  refine L (D_v (R_convN (e := ((m).b0.toNat / 16)) Try.runUnderlying5 Try.runUnderlying3 rfl (by (try simp only [List.length_take, List.length_drop, List.length_append, List.length_cons, List.length_nil, List.length_replicate, List.length_set, Nm.b_len, be2_len]); omega)) ?_)
  refine L (D_v (R_move rfl) ?_)
  refine L (D_v (R_andB rfl rfl) ?_)
  refine L (D_v (R_convN (e := ((m).b0.toNat % 16)) Try.runUnderlying5 Try.runUnderlying3 rfl (by (try simp only [List.length_take, List.length_drop, List.length_append, List.length_cons, List.length_nil, List.length_replicate, List.length_set, Nm.b_len, be2_len]); omega)) ?_)
  refine L (D_v (R_assign rfl) ?_)
  refine L (D_v (R_assign rfl) ?_)
  refine S_nil ?_
  refine T_tn ?_
  refine wp_seq ?_
  refine W_region ?_
  refine L (D_v (R_move rfl) ?_)
  refine L (D_v (R_move rfl) ?_)
  refine L (D_v (R_move rfl) ?_)
  refine L (D_buildI2 (lo := w.heap.size) (a := ((m).b0.toNat / 16)) (b := ((m).b0.toNat % 16)) Try.underlying161 Try.sizeOf3 Try.zeroValue3 (mapp2 rfl rfl) (fun v8_3 w8_3 o8_3 e8_3 => ?_))
  have zv2_0_v8_3 := own_apart o2_0.1 o8_3.1
  have zv8_3_v2_0 := fun k hk hk2 => zv2_0_v8_3 k hk2 hk
  replace o8_3 := o8_3.low hE.size
  replace hE := hE.trans e8_3
  replace o2_0 := o2_0.ext e8_3
  refine L (D_appendL elt3 Try.underlying161 rfl rfl o2_0 (Nat.le_refl _) o8_3.ls (by (try simp only [List.length_take, List.length_drop, List.length_append, List.length_cons, List.length_nil, List.length_replicate, List.length_set, Nm.b_len, be2_len]); omega) (by (try simp only [List.length_take, List.length_drop, List.length_append, List.length_cons, List.length_nil, List.length_replicate, List.length_set, Nm.b_len, be2_len]); omega) hE.size (fun v8_4 w8_4 o8_4 g8_4 f8_4 sv8_4 => ?_))
  have zv8_3_v8_4 : ∀ k, Value.ownBlock v8_3 = some k → Value.ownBlock v8_4 ≠ some k := fun k hk2 hk => (sv8_4 _ hk).elim (fun h => zv8_3_v2_0 k hk2 h) (fun h => absurd h (Nat.not_le.2 (own_lt o8_3.1 hk2)))
  have zv8_4_v8_3 := fun k hk hk2 => zv8_3_v8_4 k hk2 hk
  replace hE := hE.grown g8_4 (fun k hk => own_ge o2_0.1 hk)
  replace o8_3 := o8_3.grown g8_4 (zv8_3_v2_0) f8_4
  refine L (D_v (R_assign rfl) ?_)
  refine S_nil ?_
  refine T_tn ?_
  refine W_region ?_
  refine L (D_v (R_move rfl) ?_)
  refine L (D_v (R_move rfl) ?_)
  refine L (D_v (R_move rfl) ?_)
  refine L (D_v (R_addN (m := ((m).b0.toNat / 16)) (j := ((m).b0.toNat % 16)) rfl rfl (by (try simp only [List.length_take, List.length_drop, List.length_append, List.length_cons, List.length_nil, List.length_replicate, List.length_set, Nm.b_len, be2_len]); omega)) ?_)
  refine L (D_v (R_subN (m := 240) (j := (((m).b0.toNat / 16) + ((m).b0.toNat % 16))) rfl rfl (by (try simp only [List.length_take, List.length_drop, List.length_append, List.length_cons, List.length_nil, List.length_replicate, List.length_set, Nm.b_len, be2_len]); omega) (by (try simp only [List.length_take, List.length_drop, List.length_append, List.length_cons, List.length_nil, List.length_replicate, List.length_set, Nm.b_len, be2_len]); omega)) ?_)
  refine L (D_v (R_assign rfl) ?_)
  refine S_nil ?_
  refine T_bn ?_
  refine T_tn ?_
  refine W_region ?_
  refine L (D_v (R_cast (v' := .int .i64 (1)) (R_addI rfl rfl) rfl) ?_)
  refine L (D_v (R_move rfl) ?_)
  refine S_nil ?_
  refine T_tn ?_
  refine W_round ?_
  refine wp_seq ?_
  refine W_region ?_
  refine L (D_v (R_cast (v' := .bool true) (R_lssI rfl rfl) rfl) ?_)
  refine S_nil ?_
  refine T_tn ?_
  refine wp_seq ?_
  refine W_ift rfl ?_
  refine wp_skip ?_
  refine T_tn ?_
  refine wp_seq ?_
  refine wp_block ?_
  refine wp_seq ?_
  refine W_region ?_
  refine L (D_v (R_index Try.runUnderlying24 Try.sizeOf5 Try.isAgg5 rfl rfl rfl (by decide) (by decide)) ?_)
  refine L (D_v (R_assign rfl) ?_)
  refine S_nil ?_
  refine T_tn ?_
  refine wp_seq ?_
  refine W_region ?_
  refine L (D_v (R_move rfl) ?_)
  refine L (D_v (R_shrB rfl rfl) ?_)
  refine L (D_v (R_convN (e := ((m).b1.toNat / 16)) Try.runUnderlying5 Try.runUnderlying3 rfl (by (try simp only [List.length_take, List.length_drop, List.length_append, List.length_cons, List.length_nil, List.length_replicate, List.length_set, Nm.b_len, be2_len]); omega)) ?_)
  refine L (D_v (R_move rfl) ?_)
  refine L (D_v (R_andB rfl rfl) ?_)
  refine L (D_v (R_convN (e := ((m).b1.toNat % 16)) Try.runUnderlying5 Try.runUnderlying3 rfl (by (try simp only [List.length_take, List.length_drop, List.length_append, List.length_cons, List.length_nil, List.length_replicate, List.length_set, Nm.b_len, be2_len]); omega)) ?_)
  refine L (D_v (R_assign rfl) ?_)
  refine L (D_v (R_assign rfl) ?_)
  refine S_nil ?_
  refine T_tn ?_
  refine wp_seq ?_
  refine W_region ?_
  refine L (D_v (R_move rfl) ?_)
  refine L (D_v (R_move rfl) ?_)
  refine L (D_v (R_move rfl) ?_)
  refine L (D_buildI2 (lo := w.heap.size) (a := ((m).b1.toNat / 16)) (b := ((m).b1.toNat % 16)) Try.underlying161 Try.sizeOf3 Try.zeroValue3 (mapp2 rfl rfl) (fun v14_3 w14_3 o14_3 e14_3 => ?_))
  have zv8_4_v14_3 := own_apart o8_4.1 o14_3.1
  have zv14_3_v8_4 := fun k hk hk2 => zv8_4_v14_3 k hk2 hk
  replace o14_3 := o14_3.low hE.size
  replace hE := hE.trans e14_3
  replace o8_4 := o8_4.ext e14_3
  refine L (D_appendL elt3 Try.underlying161 rfl rfl o8_4 (Nat.le_refl _) o14_3.ls (by (try simp only [List.length_take, List.length_drop, List.length_append, List.length_cons, List.length_nil, List.length_replicate, List.length_set, Nm.b_len, be2_len]); omega) (by (try simp only [List.length_take, List.length_drop, List.length_append, List.length_cons, List.length_nil, List.length_replicate, List.length_set, Nm.b_len, be2_len]); omega) hE.size (fun v14_4 w14_4 o14_4 g14_4 f14_4 sv14_4 => ?_))
  have zv14_3_v14_4 : ∀ k, Value.ownBlock v14_3 = some k → Value.ownBlock v14_4 ≠ some k := fun k hk2 hk => (sv14_4 _ hk).elim (fun h => zv14_3_v8_4 k hk2 h) (fun h => absurd h (Nat.not_le.2 (own_lt o14_3.1 hk2)))
  have zv14_4_v14_3 := fun k hk hk2 => zv14_3_v14_4 k hk2 hk
  replace hE := hE.grown g14_4 (fun k hk => own_ge o8_4.1 hk)
  replace o14_3 := o14_3.grown g14_4 (zv14_3_v8_4) f14_4
  refine L (D_v (R_assign rfl) ?_)
  refine S_nil ?_
  refine T_tn ?_
  refine W_region ?_
  refine L (D_v (R_move rfl) ?_)
  refine L (D_v (R_move rfl) ?_)
  refine L (D_v (R_move rfl) ?_)
  refine L (D_v (R_addN (m := ((m).b1.toNat / 16)) (j := ((m).b1.toNat % 16)) rfl rfl (by (try simp only [List.length_take, List.length_drop, List.length_append, List.length_cons, List.length_nil, List.length_replicate, List.length_set, Nm.b_len, be2_len]); omega)) ?_)
  refine L (D_v (R_subN (m := (240 - (((m).b0.toNat / 16) + ((m).b0.toNat % 16)))) (j := (((m).b1.toNat / 16) + ((m).b1.toNat % 16))) rfl rfl (by (try simp only [List.length_take, List.length_drop, List.length_append, List.length_cons, List.length_nil, List.length_replicate, List.length_set, Nm.b_len, be2_len]); omega) (by (try simp only [List.length_take, List.length_drop, List.length_append, List.length_cons, List.length_nil, List.length_replicate, List.length_set, Nm.b_len, be2_len]); omega)) ?_)
  refine L (D_v (R_assign rfl) ?_)
  refine S_nil ?_
  refine T_bn ?_
  refine T_tn ?_
  refine W_region ?_
  refine L (D_v (R_cast (v' := .int .i64 (2)) (R_addI rfl rfl) rfl) ?_)
  refine L (D_v (R_move rfl) ?_)
  refine S_nil ?_
  refine T_tn ?_
  refine W_round ?_
  refine wp_seq ?_
  refine W_region ?_
  refine L (D_v (R_cast (v' := .bool true) (R_lssI rfl rfl) rfl) ?_)
  refine S_nil ?_
  refine T_tn ?_
  refine wp_seq ?_
  refine W_ift rfl ?_
  refine wp_skip ?_
  refine T_tn ?_
  refine wp_seq ?_
  refine wp_block ?_
  refine wp_seq ?_
  refine W_region ?_
  refine L (D_v (R_index Try.runUnderlying24 Try.sizeOf5 Try.isAgg5 rfl rfl rfl (by decide) (by decide)) ?_)
  refine L (D_v (R_assign rfl) ?_)
  refine S_nil ?_
  refine T_tn ?_
  refine wp_seq ?_
  refine W_region ?_
  refine L (D_v (R_move rfl) ?_)
  refine L (D_v (R_shrB rfl rfl) ?_)
  refine L (D_v (R_convN (e := ((m).b2.toNat / 16)) Try.runUnderlying5 Try.runUnderlying3 rfl (by (try simp only [List.length_take, List.length_drop, List.length_append, List.length_cons, List.length_nil, List.length_replicate, List.length_set, Nm.b_len, be2_len]); omega)) ?_)
  refine L (D_v (R_move rfl) ?_)
  refine L (D_v (R_andB rfl rfl) ?_)
  refine L (D_v (R_convN (e := ((m).b2.toNat % 16)) Try.runUnderlying5 Try.runUnderlying3 rfl (by (try simp only [List.length_take, List.length_drop, List.length_append, List.length_cons, List.length_nil, List.length_replicate, List.length_set, Nm.b_len, be2_len]); omega)) ?_)
  refine L (D_v (R_assign rfl) ?_)
  refine L (D_v (R_assign rfl) ?_)
  refine S_nil ?_
  refine T_tn ?_
  refine wp_seq ?_
  refine W_region ?_
  refine L (D_v (R_move rfl) ?_)
  refine L (D_v (R_move rfl) ?_)
  refine L (D_v (R_move rfl) ?_)
  refine L (D_buildI2 (lo := w.heap.size) (a := ((m).b2.toNat / 16)) (b := ((m).b2.toNat % 16)) Try.underlying161 Try.sizeOf3 Try.zeroValue3 (mapp2 rfl rfl) (fun v20_3 w20_3 o20_3 e20_3 => ?_))
  have zv14_4_v20_3 := own_apart o14_4.1 o20_3.1
  have zv20_3_v14_4 := fun k hk hk2 => zv14_4_v20_3 k hk2 hk
  replace o20_3 := o20_3.low hE.size
  replace hE := hE.trans e20_3
  replace o14_4 := o14_4.ext e20_3
  refine L (D_appendL elt3 Try.underlying161 rfl rfl o14_4 (Nat.le_refl _) o20_3.ls (by (try simp only [List.length_take, List.length_drop, List.length_append, List.length_cons, List.length_nil, List.length_replicate, List.length_set, Nm.b_len, be2_len]); omega) (by (try simp only [List.length_take, List.length_drop, List.length_append, List.length_cons, List.length_nil, List.length_replicate, List.length_set, Nm.b_len, be2_len]); omega) hE.size (fun v20_4 w20_4 o20_4 g20_4 f20_4 sv20_4 => ?_))
  have zv20_3_v20_4 : ∀ k, Value.ownBlock v20_3 = some k → Value.ownBlock v20_4 ≠ some k := fun k hk2 hk => (sv20_4 _ hk).elim (fun h => zv20_3_v14_4 k hk2 h) (fun h => absurd h (Nat.not_le.2 (own_lt o20_3.1 hk2)))
  have zv20_4_v20_3 := fun k hk hk2 => zv20_3_v20_4 k hk2 hk
  replace hE := hE.grown g20_4 (fun k hk => own_ge o14_4.1 hk)
  replace o20_3 := o20_3.grown g20_4 (zv20_3_v14_4) f20_4
  refine L (D_v (R_assign rfl) ?_)
  refine S_nil ?_
  refine T_tn ?_
  refine W_region ?_
  refine L (D_v (R_move rfl) ?_)
  refine L (D_v (R_move rfl) ?_)
  refine L (D_v (R_move rfl) ?_)
  refine L (D_v (R_addN (m := ((m).b2.toNat / 16)) (j := ((m).b2.toNat % 16)) rfl rfl (by (try simp only [List.length_take, List.length_drop, List.length_append, List.length_cons, List.length_nil, List.length_replicate, List.length_set, Nm.b_len, be2_len]); omega)) ?_)
  refine L (D_v (R_subN (m := ((240 - (((m).b0.toNat / 16) + ((m).b0.toNat % 16))) - (((m).b1.toNat / 16) + ((m).b1.toNat % 16)))) (j := (((m).b2.toNat / 16) + ((m).b2.toNat % 16))) rfl rfl (by (try simp only [List.length_take, List.length_drop, List.length_append, List.length_cons, List.length_nil, List.length_replicate, List.length_set, Nm.b_len, be2_len]); omega) (by (try simp only [List.length_take, List.length_drop, List.length_append, List.length_cons, List.length_nil, List.length_replicate, List.length_set, Nm.b_len, be2_len]); omega)) ?_)
  refine L (D_v (R_assign rfl) ?_)
  refine S_nil ?_
  refine T_bn ?_
  refine T_tn ?_
  refine W_region ?_
  refine L (D_v (R_cast (v' := .int .i64 (3)) (R_addI rfl rfl) rfl) ?_)
  refine L (D_v (R_move rfl) ?_)
  refine S_nil ?_
  refine T_tn ?_
  refine W_round ?_
  refine wp_seq ?_
  refine W_region ?_
  refine L (D_v (R_cast (v' := .bool true) (R_lssI rfl rfl) rfl) ?_)
  refine S_nil ?_
  refine T_tn ?_
  refine wp_seq ?_
  refine W_ift rfl ?_
  refine wp_skip ?_
  refine T_tn ?_
  refine wp_seq ?_
  refine wp_block ?_
  refine wp_seq ?_
  refine W_region ?_
  refine L (D_v (R_index Try.runUnderlying24 Try.sizeOf5 Try.isAgg5 rfl rfl rfl (by decide) (by decide)) ?_)
  refine L (D_v (R_assign rfl) ?_)
  refine S_nil ?_
  refine T_tn ?_
  refine wp_seq ?_
  refine W_region ?_
  refine L (D_v (R_move rfl) ?_)
  refine L (D_v (R_shrB rfl rfl) ?_)
  refine L (D_v (R_convN (e := ((m).b3.toNat / 16)) Try.runUnderlying5 Try.runUnderlying3 rfl (by (try simp only [List.length_take, List.length_drop, List.length_append, List.length_cons, List.length_nil, List.length_replicate, List.length_set, Nm.b_len, be2_len]); omega)) ?_)
  refine L (D_v (R_move rfl) ?_)
  refine L (D_v (R_andB rfl rfl) ?_)
  refine L (D_v (R_convN (e := ((m).b3.toNat % 16)) Try.runUnderlying5 Try.runUnderlying3 rfl (by (try simp only [List.length_take, List.length_drop, List.length_append, List.length_cons, List.length_nil, List.length_replicate, List.length_set, Nm.b_len, be2_len]); omega)) ?_)
  refine L (D_v (R_assign rfl) ?_)
  refine L (D_v (R_assign rfl) ?_)
  refine S_nil ?_
  refine T_tn ?_
  refine wp_seq ?_
  refine W_region ?_
  refine L (D_v (R_move rfl) ?_)
  refine L (D_v (R_move rfl) ?_)
  refine L (D_v (R_move rfl) ?_)
  refine L (D_buildI2 (lo := w.heap.size) (a := ((m).b3.toNat / 16)) (b := ((m).b3.toNat % 16)) Try.underlying161 Try.sizeOf3 Try.zeroValue3 (mapp2 rfl rfl) (fun v26_3 w26_3 o26_3 e26_3 => ?_))
  have zv20_4_v26_3 := own_apart o20_4.1 o26_3.1
  have zv26_3_v20_4 := fun k hk hk2 => zv20_4_v26_3 k hk2 hk
  replace o26_3 := o26_3.low hE.size
  replace hE := hE.trans e26_3
  replace o20_4 := o20_4.ext e26_3
  refine L (D_appendL elt3 Try.underlying161 rfl rfl o20_4 (Nat.le_refl _) o26_3.ls (by (try simp only [List.length_take, List.length_drop, List.length_append, List.length_cons, List.length_nil, List.length_replicate, List.length_set, Nm.b_len, be2_len]); omega) (by (try simp only [List.length_take, List.length_drop, List.length_append, List.length_cons, List.length_nil, List.length_replicate, List.length_set, Nm.b_len, be2_len]); omega) hE.size (fun v26_4 w26_4 o26_4 g26_4 f26_4 sv26_4 => ?_))
  have zv26_3_v26_4 : ∀ k, Value.ownBlock v26_3 = some k → Value.ownBlock v26_4 ≠ some k := fun k hk2 hk => (sv26_4 _ hk).elim (fun h => zv26_3_v20_4 k hk2 h) (fun h => absurd h (Nat.not_le.2 (own_lt o26_3.1 hk2)))
  have zv26_4_v26_3 := fun k hk hk2 => zv26_3_v26_4 k hk2 hk
  replace hE := hE.grown g26_4 (fun k hk => own_ge o20_4.1 hk)
  replace o26_3 := o26_3.grown g26_4 (zv26_3_v20_4) f26_4
  refine L (D_v (R_assign rfl) ?_)
  refine S_nil ?_
  refine T_tn ?_
  refine W_region ?_
  refine L (D_v (R_move rfl) ?_)
  refine L (D_v (R_move rfl) ?_)
  refine L (D_v (R_move rfl) ?_)
  refine L (D_v (R_addN (m := ((m).b3.toNat / 16)) (j := ((m).b3.toNat % 16)) rfl rfl (by (try simp only [List.length_take, List.length_drop, List.length_append, List.length_cons, List.length_nil, List.length_replicate, List.length_set, Nm.b_len, be2_len]); omega)) ?_)
  refine L (D_v (R_subN (m := (((240 - (((m).b0.toNat / 16) + ((m).b0.toNat % 16))) - (((m).b1.toNat / 16) + ((m).b1.toNat % 16))) - (((m).b2.toNat / 16) + ((m).b2.toNat % 16)))) (j := (((m).b3.toNat / 16) + ((m).b3.toNat % 16))) rfl rfl (by (try simp only [List.length_take, List.length_drop, List.length_append, List.length_cons, List.length_nil, List.length_replicate, List.length_set, Nm.b_len, be2_len]); omega) (by (try simp only [List.length_take, List.length_drop, List.length_append, List.length_cons, List.length_nil, List.length_replicate, List.length_set, Nm.b_len, be2_len]); omega)) ?_)
  refine L (D_v (R_assign rfl) ?_)
  refine S_nil ?_
  refine T_bn ?_
  refine T_tn ?_
  refine W_region ?_
  refine L (D_v (R_cast (v' := .int .i64 (4)) (R_addI rfl rfl) rfl) ?_)
  refine L (D_v (R_move rfl) ?_)
  refine S_nil ?_
  refine T_tn ?_
  refine W_round ?_
  refine wp_seq ?_
  refine W_region ?_
  refine L (D_v (R_cast (v' := .bool true) (R_lssI rfl rfl) rfl) ?_)
  refine S_nil ?_
  refine T_tn ?_
  refine wp_seq ?_
  refine W_ift rfl ?_
  refine wp_skip ?_
  refine T_tn ?_
  refine wp_seq ?_
  refine wp_block ?_
  refine wp_seq ?_
  refine W_region ?_
  refine L (D_v (R_index Try.runUnderlying24 Try.sizeOf5 Try.isAgg5 rfl rfl rfl (by decide) (by decide)) ?_)
  refine L (D_v (R_assign rfl) ?_)
  refine S_nil ?_
  refine T_tn ?_
  refine wp_seq ?_
  refine W_region ?_
  refine L (D_v (R_move rfl) ?_)
  refine L (D_v (R_shrB rfl rfl) ?_)
  refine L (D_v (R_convN (e := ((m).b4.toNat / 16)) Try.runUnderlying5 Try.runUnderlying3 rfl (by (try simp only [List.length_take, List.length_drop, List.length_append, List.length_cons, List.length_nil, List.length_replicate, List.length_set, Nm.b_len, be2_len]); omega)) ?_)
  refine L (D_v (R_move rfl) ?_)
  refine L (D_v (R_andB rfl rfl) ?_)
  refine L (D_v (R_convN (e := ((m).b4.toNat % 16)) Try.runUnderlying5 Try.runUnderlying3 rfl (by (try simp only [List.length_take, List.length_drop, List.length_append, List.length_cons, List.length_nil, List.length_replicate, List.length_set, Nm.b_len, be2_len]); omega)) ?_)
  refine L (D_v (R_assign rfl) ?_)
  refine L (D_v (R_assign rfl) ?_)
  refine S_nil ?_
  refine T_tn ?_
  refine wp_seq ?_
  refine W_region ?_
  refine L (D_v (R_move rfl) ?_)
  refine L (D_v (R_move rfl) ?_)
  refine L (D_v (R_move rfl) ?_)
  refine L (D_buildI2 (lo := w.heap.size) (a := ((m).b4.toNat / 16)) (b := ((m).b4.toNat % 16)) Try.underlying161 Try.sizeOf3 Try.zeroValue3 (mapp2 rfl rfl) (fun v32_3 w32_3 o32_3 e32_3 => ?_))
  have zv26_4_v32_3 := own_apart o26_4.1 o32_3.1
  have zv32_3_v26_4 := fun k hk hk2 => zv26_4_v32_3 k hk2 hk
  replace o32_3 := o32_3.low hE.size
  replace hE := hE.trans e32_3
  replace o26_4 := o26_4.ext e32_3
  refine L (D_appendL elt3 Try.underlying161 rfl rfl o26_4 (Nat.le_refl _) o32_3.ls (by (try simp only [List.length_take, List.length_drop, List.length_append, List.length_cons, List.length_nil, List.length_replicate, List.length_set, Nm.b_len, be2_len]); omega) (by (try simp only [List.length_take, List.length_drop, List.length_append, List.length_cons, List.length_nil, List.length_replicate, List.length_set, Nm.b_len, be2_len]); omega) hE.size (fun v32_4 w32_4 o32_4 g32_4 f32_4 sv32_4 => ?_))
  have zv32_3_v32_4 : ∀ k, Value.ownBlock v32_3 = some k → Value.ownBlock v32_4 ≠ some k := fun k hk2 hk => (sv32_4 _ hk).elim (fun h => zv32_3_v26_4 k hk2 h) (fun h => absurd h (Nat.not_le.2 (own_lt o32_3.1 hk2)))
  have zv32_4_v32_3 := fun k hk hk2 => zv32_3_v32_4 k hk2 hk
  replace hE := hE.grown g32_4 (fun k hk => own_ge o26_4.1 hk)
  replace o32_3 := o32_3.grown g32_4 (zv32_3_v26_4) f32_4
  refine L (D_v (R_assign rfl) ?_)
  refine S_nil ?_
  refine T_tn ?_
  refine W_region ?_
  refine L (D_v (R_move rfl) ?_)
  refine L (D_v (R_move rfl) ?_)
  refine L (D_v (R_move rfl) ?_)
  refine L (D_v (R_addN (m := ((m).b4.toNat / 16)) (j := ((m).b4.toNat % 16)) rfl rfl (by (try simp only [List.length_take, List.length_drop, List.length_append, List.length_cons, List.length_nil, List.length_replicate, List.length_set, Nm.b_len, be2_len]); omega)) ?_)
  refine L (D_v (R_subN (m := ((((240 - (((m).b0.toNat / 16) + ((m).b0.toNat % 16))) - (((m).b1.toNat / 16) + ((m).b1.toNat % 16))) - (((m).b2.toNat / 16) + ((m).b2.toNat % 16))) - (((m).b3.toNat / 16) + ((m).b3.toNat % 16)))) (j := (((m).b4.toNat / 16) + ((m).b4.toNat % 16))) rfl rfl (by (try simp only [List.length_take, List.length_drop, List.length_append, List.length_cons, List.length_nil, List.length_replicate, List.length_set, Nm.b_len, be2_len]); omega) (by (try simp only [List.length_take, List.length_drop, List.length_append, List.length_cons, List.length_nil, List.length_replicate, List.length_set, Nm.b_len, be2_len]); omega)) ?_)
  refine L (D_v (R_assign rfl) ?_)
  refine S_nil ?_
  refine T_bn ?_
  refine T_tn ?_
  refine W_region ?_
  refine L (D_v (R_cast (v' := .int .i64 (5)) (R_addI rfl rfl) rfl) ?_)
  refine L (D_v (R_move rfl) ?_)
  refine S_nil ?_
  refine T_tn ?_
  refine W_round ?_
  refine wp_seq ?_
  refine W_region ?_
  refine L (D_v (R_cast (v' := .bool true) (R_lssI rfl rfl) rfl) ?_)
  refine S_nil ?_
  refine T_tn ?_
  refine wp_seq ?_
  refine W_ift rfl ?_
  refine wp_skip ?_
  refine T_tn ?_
  refine wp_seq ?_
  refine wp_block ?_
  refine wp_seq ?_
  refine W_region ?_
  refine L (D_v (R_index Try.runUnderlying24 Try.sizeOf5 Try.isAgg5 rfl rfl rfl (by decide) (by decide)) ?_)
  refine L (D_v (R_assign rfl) ?_)
  refine S_nil ?_
  refine T_tn ?_
  refine wp_seq ?_
  refine W_region ?_
  refine L (D_v (R_move rfl) ?_)
  refine L (D_v (R_shrB rfl rfl) ?_)
  refine L (D_v (R_convN (e := ((m).b5.toNat / 16)) Try.runUnderlying5 Try.runUnderlying3 rfl (by (try simp only [List.length_take, List.length_drop, List.length_append, List.length_cons, List.length_nil, List.length_replicate, List.length_set, Nm.b_len, be2_len]); omega)) ?_)
  refine L (D_v (R_move rfl) ?_)
  refine L (D_v (R_andB rfl rfl) ?_)
  refine L (D_v (R_convN (e := ((m).b5.toNat % 16)) Try.runUnderlying5 Try.runUnderlying3 rfl (by (try simp only [List.length_take, List.length_drop, List.length_append, List.length_cons, List.length_nil, List.length_replicate, List.length_set, Nm.b_len, be2_len]); omega)) ?_)
  refine L (D_v (R_assign rfl) ?_)
  refine L (D_v (R_assign rfl) ?_)
  refine S_nil ?_
  refine T_tn ?_
  refine wp_seq ?_
  refine W_region ?_
  refine L (D_v (R_move rfl) ?_)
  refine L (D_v (R_move rfl) ?_)
  refine L (D_v (R_move rfl) ?_)
  refine L (D_buildI2 (lo := w.heap.size) (a := ((m).b5.toNat / 16)) (b := ((m).b5.toNat % 16)) Try.underlying161 Try.sizeOf3 Try.zeroValue3 (mapp2 rfl rfl) (fun v38_3 w38_3 o38_3 e38_3 => ?_))
  have zv32_4_v38_3 := own_apart o32_4.1 o38_3.1
  have zv38_3_v32_4 := fun k hk hk2 => zv32_4_v38_3 k hk2 hk
  replace o38_3 := o38_3.low hE.size
  replace hE := hE.trans e38_3
  replace o32_4 := o32_4.ext e38_3
  refine L (D_appendL elt3 Try.underlying161 rfl rfl o32_4 (Nat.le_refl _) o38_3.ls (by (try simp only [List.length_take, List.length_drop, List.length_append, List.length_cons, List.length_nil, List.length_replicate, List.length_set, Nm.b_len, be2_len]); omega) (by (try simp only [List.length_take, List.length_drop, List.length_append, List.length_cons, List.length_nil, List.length_replicate, List.length_set, Nm.b_len, be2_len]); omega) hE.size (fun v38_4 w38_4 o38_4 g38_4 f38_4 sv38_4 => ?_))
  have zv38_3_v38_4 : ∀ k, Value.ownBlock v38_3 = some k → Value.ownBlock v38_4 ≠ some k := fun k hk2 hk => (sv38_4 _ hk).elim (fun h => zv38_3_v32_4 k hk2 h) (fun h => absurd h (Nat.not_le.2 (own_lt o38_3.1 hk2)))
  have zv38_4_v38_3 := fun k hk hk2 => zv38_3_v38_4 k hk2 hk
  replace hE := hE.grown g38_4 (fun k hk => own_ge o32_4.1 hk)
  replace o38_3 := o38_3.grown g38_4 (zv38_3_v32_4) f38_4
  refine L (D_v (R_assign rfl) ?_)
  refine S_nil ?_
  refine T_tn ?_
  refine W_region ?_
  refine L (D_v (R_move rfl) ?_)
  refine L (D_v (R_move rfl) ?_)
  refine L (D_v (R_move rfl) ?_)
  refine L (D_v (R_addN (m := ((m).b5.toNat / 16)) (j := ((m).b5.toNat % 16)) rfl rfl (by (try simp only [List.length_take, List.length_drop, List.length_append, List.length_cons, List.length_nil, List.length_replicate, List.length_set, Nm.b_len, be2_len]); omega)) ?_)
  refine L (D_v (R_subN (m := (((((240 - (((m).b0.toNat / 16) + ((m).b0.toNat % 16))) - (((m).b1.toNat / 16) + ((m).b1.toNat % 16))) - (((m).b2.toNat / 16) + ((m).b2.toNat % 16))) - (((m).b3.toNat / 16) + ((m).b3.toNat % 16))) - (((m).b4.toNat / 16) + ((m).b4.toNat % 16)))) (j := (((m).b5.toNat / 16) + ((m).b5.toNat % 16))) rfl rfl (by (try simp only [List.length_take, List.length_drop, List.length_append, List.length_cons, List.length_nil, List.length_replicate, List.length_set, Nm.b_len, be2_len]); omega) (by (try simp only [List.length_take, List.length_drop, List.length_append, List.length_cons, List.length_nil, List.length_replicate, List.length_set, Nm.b_len, be2_len]); omega)) ?_)
  refine L (D_v (R_assign rfl) ?_)
  refine S_nil ?_
  refine T_bn ?_
  refine T_tn ?_
  refine W_region ?_
  refine L (D_v (R_cast (v' := .int .i64 (6)) (R_addI rfl rfl) rfl) ?_)
  refine L (D_v (R_move rfl) ?_)
  refine S_nil ?_
  refine T_tn ?_
  refine W_round ?_
  refine wp_seq ?_
  refine W_region ?_
  refine L (D_v (R_cast (v' := .bool true) (R_lssI rfl rfl) rfl) ?_)
  refine S_nil ?_
  refine T_tn ?_
  refine wp_seq ?_
  refine W_ift rfl ?_
  refine wp_skip ?_
  refine T_tn ?_
  refine wp_seq ?_
  refine wp_block ?_
  refine wp_seq ?_
  refine W_region ?_
  refine L (D_v (R_index Try.runUnderlying24 Try.sizeOf5 Try.isAgg5 rfl rfl rfl (by decide) (by decide)) ?_)
  refine L (D_v (R_assign rfl) ?_)
  refine S_nil ?_
  refine T_tn ?_
  refine wp_seq ?_
  refine W_region ?_
  refine L (D_v (R_move rfl) ?_)
  refine L (D_v (R_shrB rfl rfl) ?_)
  refine L (D_v (R_convN (e := ((m).b6.toNat / 16)) Try.runUnderlying5 Try.runUnderlying3 rfl (by (try simp only [List.length_take, List.length_drop, List.length_append, List.length_cons, List.length_nil, List.length_replicate, List.length_set, Nm.b_len, be2_len]); omega)) ?_)
  refine L (D_v (R_move rfl) ?_)
  refine L (D_v (R_andB rfl rfl) ?_)
  refine L (D_v (R_convN (e := ((m).b6.toNat % 16)) Try.runUnderlying5 Try.runUnderlying3 rfl (by (try simp only [List.length_take, List.length_drop, List.length_append, List.length_cons, List.length_nil, List.length_replicate, List.length_set, Nm.b_len, be2_len]); omega)) ?_)
  refine L (D_v (R_assign rfl) ?_)
  refine L (D_v (R_assign rfl) ?_)
  refine S_nil ?_
  refine T_tn ?_
  refine wp_seq ?_
  refine W_region ?_
  refine L (D_v (R_move rfl) ?_)
  refine L (D_v (R_move rfl) ?_)
  refine L (D_v (R_move rfl) ?_)
  refine L (D_buildI2 (lo := w.heap.size) (a := ((m).b6.toNat / 16)) (b := ((m).b6.toNat % 16)) Try.underlying161 Try.sizeOf3 Try.zeroValue3 (mapp2 rfl rfl) (fun v44_3 w44_3 o44_3 e44_3 => ?_))
  have zv38_4_v44_3 := own_apart o38_4.1 o44_3.1
  have zv44_3_v38_4 := fun k hk hk2 => zv38_4_v44_3 k hk2 hk
  replace o44_3 := o44_3.low hE.size
  replace hE := hE.trans e44_3
  replace o38_4 := o38_4.ext e44_3
  refine L (D_appendL elt3 Try.underlying161 rfl rfl o38_4 (Nat.le_refl _) o44_3.ls (by (try simp only [List.length_take, List.length_drop, List.length_append, List.length_cons, List.length_nil, List.length_replicate, List.length_set, Nm.b_len, be2_len]); omega) (by (try simp only [List.length_take, List.length_drop, List.length_append, List.length_cons, List.length_nil, List.length_replicate, List.length_set, Nm.b_len, be2_len]); omega) hE.size (fun v44_4 w44_4 o44_4 g44_4 f44_4 sv44_4 => ?_))
  have zv44_3_v44_4 : ∀ k, Value.ownBlock v44_3 = some k → Value.ownBlock v44_4 ≠ some k := fun k hk2 hk => (sv44_4 _ hk).elim (fun h => zv44_3_v38_4 k hk2 h) (fun h => absurd h (Nat.not_le.2 (own_lt o44_3.1 hk2)))
  have zv44_4_v44_3 := fun k hk hk2 => zv44_3_v44_4 k hk2 hk
  replace hE := hE.grown g44_4 (fun k hk => own_ge o38_4.1 hk)
  replace o44_3 := o44_3.grown g44_4 (zv44_3_v38_4) f44_4
  refine L (D_v (R_assign rfl) ?_)
  refine S_nil ?_
  refine T_tn ?_
  refine W_region ?_
  refine L (D_v (R_move rfl) ?_)
  refine L (D_v (R_move rfl) ?_)
  refine L (D_v (R_move rfl) ?_)
  refine L (D_v (R_addN (m := ((m).b6.toNat / 16)) (j := ((m).b6.toNat % 16)) rfl rfl (by (try simp only [List.length_take, List.length_drop, List.length_append, List.length_cons, List.length_nil, List.length_replicate, List.length_set, Nm.b_len, be2_len]); omega)) ?_)
  refine L (D_v (R_subN (m := ((((((240 - (((m).b0.toNat / 16) + ((m).b0.toNat % 16))) - (((m).b1.toNat / 16) + ((m).b1.toNat % 16))) - (((m).b2.toNat / 16) + ((m).b2.toNat % 16))) - (((m).b3.toNat / 16) + ((m).b3.toNat % 16))) - (((m).b4.toNat / 16) + ((m).b4.toNat % 16))) - (((m).b5.toNat / 16) + ((m).b5.toNat % 16)))) (j := (((m).b6.toNat / 16) + ((m).b6.toNat % 16))) rfl rfl (by (try simp only [List.length_take, List.length_drop, List.length_append, List.length_cons, List.length_nil, List.length_replicate, List.length_set, Nm.b_len, be2_len]); omega) (by (try simp only [List.length_take, List.length_drop, List.length_append, List.length_cons, List.length_nil, List.length_replicate, List.length_set, Nm.b_len, be2_len]); omega)) ?_)
  refine L (D_v (R_assign rfl) ?_)
  refine S_nil ?_
  refine T_bn ?_
  refine T_tn ?_
  refine W_region ?_
  refine L (D_v (R_cast (v' := .int .i64 (7)) (R_addI rfl rfl) rfl) ?_)
  refine L (D_v (R_move rfl) ?_)
  refine S_nil ?_
  refine T_tn ?_
  refine W_round ?_
  refine wp_seq ?_
  refine W_region ?_
  refine L (D_v (R_cast (v' := .bool true) (R_lssI rfl rfl) rfl) ?_)
  refine S_nil ?_
  refine T_tn ?_
  refine wp_seq ?_
  refine W_ift rfl ?_
  refine wp_skip ?_
  refine T_tn ?_
  refine wp_seq ?_
  refine wp_block ?_
  refine wp_seq ?_
  refine W_region ?_
  refine L (D_v (R_index Try.runUnderlying24 Try.sizeOf5 Try.isAgg5 rfl rfl rfl (by decide) (by decide)) ?_)
  refine L (D_v (R_assign rfl) ?_)
  refine S_nil ?_
  refine T_tn ?_
  refine wp_seq ?_
  refine W_region ?_
  refine L (D_v (R_move rfl) ?_)
  refine L (D_v (R_shrB rfl rfl) ?_)
  refine L (D_v (R_convN (e := ((m).b7.toNat / 16)) Try.runUnderlying5 Try.runUnderlying3 rfl (by (try simp only [List.length_take, List.length_drop, List.length_append, List.length_cons, List.length_nil, List.length_replicate, List.length_set, Nm.b_len, be2_len]); omega)) ?_)
  refine L (D_v (R_move rfl) ?_)
  refine L (D_v (R_andB rfl rfl) ?_)
  refine L (D_v (R_convN (e := ((m).b7.toNat % 16)) Try.runUnderlying5 Try.runUnderlying3 rfl (by (try simp only [List.length_take, List.length_drop, List.length_append, List.length_cons, List.length_nil, List.length_replicate, List.length_set, Nm.b_len, be2_len]); omega)) ?_)
  refine L (D_v (R_assign rfl) ?_)
  refine L (D_v (R_assign rfl) ?_)
  refine S_nil ?_
  refine T_tn ?_
  refine wp_seq ?_
  refine W_region ?_
  refine L (D_v (R_move rfl) ?_)
  refine L (D_v (R_move rfl) ?_)
  refine L (D_v (R_move rfl) ?_)
  refine L (D_buildI2 (lo := w.heap.size) (a := ((m).b7.toNat / 16)) (b := ((m).b7.toNat % 16)) Try.underlying161 Try.sizeOf3 Try.zeroValue3 (mapp2 rfl rfl) (fun v50_3 w50_3 o50_3 e50_3 => ?_))
  have zv44_4_v50_3 := own_apart o44_4.1 o50_3.1
  have zv50_3_v44_4 := fun k hk hk2 => zv44_4_v50_3 k hk2 hk
  replace o50_3 := o50_3.low hE.size
  replace hE := hE.trans e50_3
  replace o44_4 := o44_4.ext e50_3
  refine L (D_appendL elt3 Try.underlying161 rfl rfl o44_4 (Nat.le_refl _) o50_3.ls (by (try simp only [List.length_take, List.length_drop, List.length_append, List.length_cons, List.length_nil, List.length_replicate, List.length_set, Nm.b_len, be2_len]); omega) (by (try simp only [List.length_take, List.length_drop, List.length_append, List.length_cons, List.length_nil, List.length_replicate, List.length_set, Nm.b_len, be2_len]); omega) hE.size (fun v50_4 w50_4 o50_4 g50_4 f50_4 sv50_4 => ?_))
  have zv50_3_v50_4 : ∀ k, Value.ownBlock v50_3 = some k → Value.ownBlock v50_4 ≠ some k := fun k hk2 hk => (sv50_4 _ hk).elim (fun h => zv50_3_v44_4 k hk2 h) (fun h => absurd h (Nat.not_le.2 (own_lt o50_3.1 hk2)))
  have zv50_4_v50_3 := fun k hk hk2 => zv50_3_v50_4 k hk2 hk
  replace hE := hE.grown g50_4 (fun k hk => own_ge o44_4.1 hk)
  replace o50_3 := o50_3.grown g50_4 (zv50_3_v44_4) f50_4
  refine L (D_v (R_assign rfl) ?_)
  refine S_nil ?_
  refine T_tn ?_
  refine W_region ?_
  refine L (D_v (R_move rfl) ?_)
  refine L (D_v (R_move rfl) ?_)
  refine L (D_v (R_move rfl) ?_)
  refine L (D_v (R_addN (m := ((m).b7.toNat / 16)) (j := ((m).b7.toNat % 16)) rfl rfl (by (try simp only [List.length_take, List.length_drop, List.length_append, List.length_cons, List.length_nil, List.length_replicate, List.length_set, Nm.b_len, be2_len]); omega)) ?_)
  refine L (D_v (R_subN (m := (((((((240 - (((m).b0.toNat / 16) + ((m).b0.toNat % 16))) - (((m).b1.toNat / 16) + ((m).b1.toNat % 16))) - (((m).b2.toNat / 16) + ((m).b2.toNat % 16))) - (((m).b3.toNat / 16) + ((m).b3.toNat % 16))) - (((m).b4.toNat / 16) + ((m).b4.toNat % 16))) - (((m).b5.toNat / 16) + ((m).b5.toNat % 16))) - (((m).b6.toNat / 16) + ((m).b6.toNat % 16)))) (j := (((m).b7.toNat / 16) + ((m).b7.toNat % 16))) rfl rfl (by (try simp only [List.length_take, List.length_drop, List.length_append, List.length_cons, List.length_nil, List.length_replicate, List.length_set, Nm.b_len, be2_len]); omega) (by (try simp only [List.length_take, List.length_drop, List.length_append, List.length_cons, List.length_nil, List.length_replicate, List.length_set, Nm.b_len, be2_len]); omega)) ?_)
  refine L (D_v (R_assign rfl) ?_)
  refine S_nil ?_
  refine T_bn ?_
  refine T_tn ?_
  refine W_region ?_
  refine L (D_v (R_cast (v' := .int .i64 (8)) (R_addI rfl rfl) rfl) ?_)
  refine L (D_v (R_move rfl) ?_)
  refine S_nil ?_
  refine T_tn ?_
  refine W_round ?_
  refine wp_seq ?_
  refine W_region ?_
  refine L (D_v (R_cast (v' := .bool false) (R_lssI rfl rfl) rfl) ?_)
  refine S_nil ?_
  refine T_tn ?_
  refine wp_seq ?_
  refine W_iff rfl ?_
  refine wp_exit ?_
  refine T_te ?_
  refine T_te ?_
  refine T_be ?_
  refine T_tn ?_
  refine wp_seq ?_
  refine W_region ?_
  refine L (D_v (R_move rfl) ?_)
  refine L (D_v (R_move rfl) ?_)
  refine L (D_v (R_shrN (m := ((((((((240 - (((m).b0.toNat / 16) + ((m).b0.toNat % 16))) - (((m).b1.toNat / 16) + ((m).b1.toNat % 16))) - (((m).b2.toNat / 16) + ((m).b2.toNat % 16))) - (((m).b3.toNat / 16) + ((m).b3.toNat % 16))) - (((m).b4.toNat / 16) + ((m).b4.toNat % 16))) - (((m).b5.toNat / 16) + ((m).b5.toNat % 16))) - (((m).b6.toNat / 16) + ((m).b6.toNat % 16))) - (((m).b7.toNat / 16) + ((m).b7.toNat % 16)))) rfl rfl) ?_)
  refine L (D_v (R_move rfl) ?_)
  refine L (D_v (R_andN (m := ((((((((240 - (((m).b0.toNat / 16) + ((m).b0.toNat % 16))) - (((m).b1.toNat / 16) + ((m).b1.toNat % 16))) - (((m).b2.toNat / 16) + ((m).b2.toNat % 16))) - (((m).b3.toNat / 16) + ((m).b3.toNat % 16))) - (((m).b4.toNat / 16) + ((m).b4.toNat % 16))) - (((m).b5.toNat / 16) + ((m).b5.toNat % 16))) - (((m).b6.toNat / 16) + ((m).b6.toNat % 16))) - (((m).b7.toNat / 16) + ((m).b7.toNat % 16)))) rfl rfl (by (try simp only [List.length_take, List.length_drop, List.length_append, List.length_cons, List.length_nil, List.length_replicate, List.length_set, Nm.b_len, be2_len]); omega)) ?_)
  refine L (D_buildI2 (lo := w.heap.size) (a := (((((((((240 - (((m).b0.toNat / 16) + ((m).b0.toNat % 16))) - (((m).b1.toNat / 16) + ((m).b1.toNat % 16))) - (((m).b2.toNat / 16) + ((m).b2.toNat % 16))) - (((m).b3.toNat / 16) + ((m).b3.toNat % 16))) - (((m).b4.toNat / 16) + ((m).b4.toNat % 16))) - (((m).b5.toNat / 16) + ((m).b5.toNat % 16))) - (((m).b6.toNat / 16) + ((m).b6.toNat % 16))) - (((m).b7.toNat / 16) + ((m).b7.toNat % 16))) / 16)) (b := (((((((((240 - (((m).b0.toNat / 16) + ((m).b0.toNat % 16))) - (((m).b1.toNat / 16) + ((m).b1.toNat % 16))) - (((m).b2.toNat / 16) + ((m).b2.toNat % 16))) - (((m).b3.toNat / 16) + ((m).b3.toNat % 16))) - (((m).b4.toNat / 16) + ((m).b4.toNat % 16))) - (((m).b5.toNat / 16) + ((m).b5.toNat % 16))) - (((m).b6.toNat / 16) + ((m).b6.toNat % 16))) - (((m).b7.toNat / 16) + ((m).b7.toNat % 16))) % 16)) Try.underlying161 Try.sizeOf3 Try.zeroValue3 (mapp2 rfl rfl) (fun v54_5 w54_5 o54_5 e54_5 => ?_))
  have zv50_4_v54_5 := own_apart o50_4.1 o54_5.1
  have zv54_5_v50_4 := fun k hk hk2 => zv50_4_v54_5 k hk2 hk
  replace o54_5 := o54_5.low hE.size
  replace hE := hE.trans e54_5
  replace o50_4 := o50_4.ext e54_5
  refine L (D_appendL elt3 Try.underlying161 rfl rfl o50_4 (Nat.le_refl _) o54_5.ls (by (try simp only [List.length_take, List.length_drop, List.length_append, List.length_cons, List.length_nil, List.length_replicate, List.length_set, Nm.b_len, be2_len]); omega) (by (try simp only [List.length_take, List.length_drop, List.length_append, List.length_cons, List.length_nil, List.length_replicate, List.length_set, Nm.b_len, be2_len]); omega) hE.size (fun v54_6 w54_6 o54_6 g54_6 f54_6 sv54_6 => ?_))
  have zv54_5_v54_6 : ∀ k, Value.ownBlock v54_5 = some k → Value.ownBlock v54_6 ≠ some k := fun k hk2 hk => (sv54_6 _ hk).elim (fun h => zv54_5_v50_4 k hk2 h) (fun h => absurd h (Nat.not_le.2 (own_lt o54_5.1 hk2)))
  have zv54_6_v54_5 := fun k hk hk2 => zv54_5_v54_6 k hk2 hk
  replace hE := hE.grown g54_6 (fun k hk => own_ge o50_4.1 hk)
  replace o54_5 := o54_5.grown g54_6 (zv54_5_v50_4) f54_6
  refine L (D_v (R_assign rfl) ?_)
  refine S_nil ?_
  refine T_tn ?_
  refine wp_ret ?_
  refine ret1 (v := v54_6) rfl rfl ⟨_, rfl, hE, ?_⟩
  unfold digits drest; simp only [Nat.sub_add_eq]; first | exact o54_6 | (simp only [Nat.sub_add_eq] at o54_6; exact o54_6)
set_option maxRecDepth 4000 in
set_option maxHeartbeats 4000000 in
theorem c143 (m : Nm) (w : World) : Calls Try.prog 143 [m.v].toArray w (RetE w fun r w' => Ow cI w.heap.size w.heap.size w' r (digits m)) := by
  refine enter Try.func143 Try.ntmps143 rfl rfl ?_
  have hE := Ext.refl w
  have hb0 := m.b0.toNat_lt
  have hb1 := m.b1.toNat_lt
  have hb2 := m.b2.toNat_lt
  have hb3 := m.b3.toNat_lt
  have hb4 := m.b4.toNat_lt
  have hb5 := m.b5.toNat_lt
  have hb6 := m.b6.toNat_lt
  have hb7 := m.b7.toNat_lt
  refine wp_seq ?_
  refine W_region ?_
  refine L (D_box (c := (m).l) (rfl) (fun aB1_0 w1_0 e1_0 gB1_0 hB1_0 => ?_))
  have lB1_0 := Nat.le_trans hE.size gB1_0
  replace hE := hE.trans e1_0
  refine L (D_v (R_assign rfl) ?_)
  refine S_nil ?_
  refine T_tn ?_
  refine wp_seq ?_
  refine W_region ?_
  refine L (D_v (R_assign rfl) ?_)
  refine S_nil ?_
  refine T_tn ?_
  refine wp_seq ?_
  refine W_region ?_
  refine L (D_v (R_assign rfl) ?_)
  refine S_nil ?_
  refine T_tn ?_
  refine wp_seq ?_
  refine wp_seq ?_
  refine W_region ?_
  refine L (D_v (R_assign rfl) ?_)
  refine S_nil ?_
  refine T_tn ?_
  refine wp_block ?_
  refine W_unroll 8 ?_
  refine W_round ?_
  refine wp_seq ?_
  refine wp_seq ?_
  refine W_region ?_
  refine L (D_v (R_move rfl) ?_)
  refine L (D_v (R_cast (v' := .bool true) (R_lssI rfl rfl) rfl) ?_)
  refine S_nil ?_
  refine T_tn ?_
  refine W_ift rfl ?_
  refine wp_skip ?_
  refine T_tn ?_
  refine wp_seq ?_
  refine wp_block ?_
  refine wp_seq ?_
  refine W_held (fun W => Ext w W ∧ Blk W aB1_0 (m).l 24 ∧ True) mixed (fun w6_99 e6_99 => ?_)
  replace hE := hE.trans e6_99
  replace hB1_0 := hB1_0.ext e6_99
  refine H_take (i := 0) rfl (by kernel_rfl) (by kernel_rfl) (by kernel_rfl) rfl (pq_then (pq_block (pq_then (pq_then (pq_block (pq_then pq_body)))))) ⟨hE, hB1_0, trivial⟩ rfl (fun w hw => R_move rfl) ?_
  refine H_take (i := 1) rfl (by kernel_rfl) (by kernel_rfl) (by kernel_rfl) rfl (pq_then (pq_block (pq_then (pq_then (pq_block (pq_then pq_body)))))) ⟨hE, hB1_0, trivial⟩ rfl (fun w hw => R_move rfl) ?_
  refine H_take (i := 2) rfl (by kernel_rfl) (by kernel_rfl) (by kernel_rfl) rfl (pq_then (pq_block (pq_then (pq_then (pq_block (pq_then pq_body)))))) ⟨hE, hB1_0, trivial⟩ rfl (fun w hw => R_indexAddrA Try.runUnderlying24 Try.sizeOf5 rfl rfl (by decide) (by decide)) ?_
  refine H_take (i := 3) rfl (by kernel_rfl) (by kernel_rfl) (by kernel_rfl) rfl (pq_then (pq_block (pq_then (pq_then (pq_block (pq_then pq_body)))))) ⟨hE, hB1_0, trivial⟩ rfl (fun w hw => R_load Try.isAgg5 hw.2.1 rfl rfl) ?_
  refine H_take (i := 4) rfl (by kernel_rfl) (by kernel_rfl) (by kernel_rfl) rfl (pq_then (pq_block (pq_then (pq_then (pq_block (pq_then pq_body)))))) ⟨hE, hB1_0, trivial⟩ rfl (fun w hw => R_shrB rfl rfl) ?_
  refine H_take (i := 5) rfl (by kernel_rfl) (by kernel_rfl) (by kernel_rfl) rfl (pq_then (pq_block (pq_then (pq_then (pq_block (pq_then pq_body)))))) ⟨hE, hB1_0, trivial⟩ rfl (fun w hw => R_convN (e := ((m).b0.toNat / 16)) Try.runUnderlying5 Try.runUnderlying3 rfl (by (try simp only [List.length_take, List.length_drop, List.length_append, List.length_cons, List.length_nil, List.length_replicate, List.length_set, Nm.b_len, be2_len]); omega)) ?_
  refine H_take (i := 6) rfl (by kernel_rfl) (by kernel_rfl) (by kernel_rfl) rfl (pq_then (pq_block (pq_then (pq_then (pq_block (pq_then pq_body)))))) ⟨hE, hB1_0, trivial⟩ rfl (fun w hw => R_move rfl) ?_
  refine H_take (i := 7) rfl (by kernel_rfl) (by kernel_rfl) (by kernel_rfl) rfl (pq_then (pq_block (pq_then (pq_then (pq_block (pq_then pq_body)))))) ⟨hE, hB1_0, trivial⟩ rfl (fun w hw => R_indexAddrA Try.runUnderlying24 Try.sizeOf5 rfl rfl (by decide) (by decide)) ?_
  refine H_take (i := 8) rfl (by kernel_rfl) (by kernel_rfl) (by kernel_rfl) rfl (pq_then (pq_block (pq_then (pq_then (pq_block (pq_then pq_body)))))) ⟨hE, hB1_0, trivial⟩ rfl (fun w hw => R_load Try.isAgg5 hw.2.1 rfl rfl) ?_
  refine H_take (i := 9) rfl (by kernel_rfl) (by kernel_rfl) (by kernel_rfl) rfl (pq_then (pq_block (pq_then (pq_then (pq_block (pq_then pq_body)))))) ⟨hE, hB1_0, trivial⟩ rfl (fun w hw => R_andB rfl rfl) ?_
  refine H_take (i := 10) rfl (by kernel_rfl) (by kernel_rfl) (by kernel_rfl) rfl (pq_then (pq_block (pq_then (pq_then (pq_block (pq_then pq_body)))))) ⟨hE, hB1_0, trivial⟩ rfl (fun w hw => R_convN (e := ((m).b0.toNat % 16)) Try.runUnderlying5 Try.runUnderlying3 rfl (by (try simp only [List.length_take, List.length_drop, List.length_append, List.length_cons, List.length_nil, List.length_replicate, List.length_set, Nm.b_len, be2_len]); omega)) ?_
  refine H_op (i := 11) (by kernel_rfl) rfl rfl (D_buildI2 (lo := w.heap.size) (a := ((m).b0.toNat / 16)) (b := ((m).b0.toNat % 16)) Try.underlying161 Try.sizeOf3 Try.zeroValue3 (mapp2 rfl rfl) (fun v6_11 w6_11 o6_11 e6_11 => ?_))
  replace o6_11 := o6_11.low hE.size
  replace hE := hE.trans e6_11
  replace hB1_0 := hB1_0.ext e6_11
  refine ⟨⟨hE, hB1_0, trivial⟩, ?_⟩
  have o6_12n := Ow.nil cI w.heap.size w.heap.size w6_11
  refine H_op (i := 12) (by kernel_rfl) rfl rfl (D_appendL elt3 Try.underlying161 rfl rfl o6_12n (Nat.le_refl _) o6_11.ls (by (try simp only [List.length_take, List.length_drop, List.length_append, List.length_cons, List.length_nil, List.length_replicate, List.length_set, Nm.b_len, be2_len]); omega) (by (try simp only [List.length_take, List.length_drop, List.length_append, List.length_cons, List.length_nil, List.length_replicate, List.length_set, Nm.b_len, be2_len]); omega) hE.size (fun v6_12 w6_12 o6_12 g6_12 f6_12 sv6_12 => ?_))
  have zv6_11_v6_12 : ∀ k, Value.ownBlock v6_11 = some k → Value.ownBlock v6_12 ≠ some k := fun k hk2 hk => (sv6_12 _ hk).elim (fun h => nomatch (show (none : Option Nat) = some _ from h)) (fun h => absurd h (Nat.not_le.2 (own_lt o6_11.1 hk2)))
  have zv6_12_v6_11 := fun k hk hk2 => zv6_11_v6_12 k hk2 hk
  replace hE := hE.grown g6_12 (fun k hk => own_ge o6_12n.1 hk)
  replace hB1_0 := hB1_0.grown g6_12 (own_neB o6_12n.1 hB1_0 rfl)
  refine ⟨⟨hE, hB1_0, trivial⟩, ?_⟩
  refine H_take (i := 13) rfl (by kernel_rfl) (by kernel_rfl) (by kernel_rfl) rfl (pq_then (pq_block (pq_then (pq_then (pq_block (pq_then pq_body)))))) ⟨hE, hB1_0, trivial⟩ rfl (fun w hw => R_assign rfl) ?_
  refine H_done (by kernel_rfl) ?_
  refine T_tn ?_
  refine W_draw mixed (by kernel_rfl) ?_
  refine Q_v (fun w hw => R_move rfl) ?_
  refine Q_v (fun w hw => R_move rfl) ?_
  refine Q_v (fun w hw => R_indexAddrA Try.runUnderlying24 Try.sizeOf5 rfl rfl (by decide) (by decide)) ?_
  refine Q_v (fun w hw => R_load Try.isAgg5 (hB1_0.ext hw) rfl rfl) ?_
  refine Q_v (fun w hw => R_shrB rfl rfl) ?_
  refine Q_v (fun w hw => R_convN (e := ((m).b0.toNat / 16)) Try.runUnderlying5 Try.runUnderlying3 rfl (by (try simp only [List.length_take, List.length_drop, List.length_append, List.length_cons, List.length_nil, List.length_replicate, List.length_set, Nm.b_len, be2_len]); omega)) ?_
  refine Q_v (fun w hw => R_subN (m := 240) (j := ((m).b0.toNat / 16)) rfl rfl (by (try simp only [List.length_take, List.length_drop, List.length_append, List.length_cons, List.length_nil, List.length_replicate, List.length_set, Nm.b_len, be2_len]); omega) (by (try simp only [List.length_take, List.length_drop, List.length_append, List.length_cons, List.length_nil, List.length_replicate, List.length_set, Nm.b_len, be2_len]); omega)) ?_
  refine Q_v (fun w hw => R_move rfl) ?_
  refine Q_v (fun w hw => R_indexAddrA Try.runUnderlying24 Try.sizeOf5 rfl rfl (by decide) (by decide)) ?_
  refine Q_v (fun w hw => R_load Try.isAgg5 (hB1_0.ext hw) rfl rfl) ?_
  refine Q_v (fun w hw => R_andB rfl rfl) ?_
  refine Q_v (fun w hw => R_convN (e := ((m).b0.toNat % 16)) Try.runUnderlying5 Try.runUnderlying3 rfl (by (try simp only [List.length_take, List.length_drop, List.length_append, List.length_cons, List.length_nil, List.length_replicate, List.length_set, Nm.b_len, be2_len]); omega)) ?_
  refine Q_v (fun w hw => R_subN (m := (240 - ((m).b0.toNat / 16))) (j := ((m).b0.toNat % 16)) rfl rfl (by (try simp only [List.length_take, List.length_drop, List.length_append, List.length_cons, List.length_nil, List.length_replicate, List.length_set, Nm.b_len, be2_len]); omega) (by (try simp only [List.length_take, List.length_drop, List.length_append, List.length_cons, List.length_nil, List.length_replicate, List.length_set, Nm.b_len, be2_len]); omega)) ?_
  refine Q_v (fun w hw => R_assign rfl) ?_
  refine Q_nil (fun w7_99 e7_99 => ?_)
  replace hE := hE.trans e7_99
  replace hB1_0 := hB1_0.ext e7_99
  replace o6_12 := o6_12.ext e7_99
  refine T_bn ?_
  refine T_tn ?_
  refine W_region ?_
  refine L (D_v (R_move rfl) ?_)
  refine L (D_v (R_cast (v' := .int .i64 (1)) (R_addI rfl rfl) rfl) ?_)
  refine L (D_v (R_assign rfl) ?_)
  refine S_nil ?_
  refine T_tn ?_
  refine W_round ?_
  refine wp_seq ?_
  refine wp_seq ?_
  refine W_region ?_
  refine L (D_v (R_move rfl) ?_)
  refine L (D_v (R_cast (v' := .bool true) (R_lssI rfl rfl) rfl) ?_)
  refine S_nil ?_
  refine T_tn ?_
  refine W_ift rfl ?_
  refine wp_skip ?_
  refine T_tn ?_
  refine wp_seq ?_
  refine wp_block ?_
  refine wp_seq ?_
  refine W_held (fun W => Ext w W ∧ Blk W aB1_0 (m).l 24 ∧ True) mixed (fun w10_99 e10_99 => ?_)
  replace hE := hE.trans e10_99
  replace hB1_0 := hB1_0.ext e10_99
  replace o6_12 := o6_12.ext e10_99
  refine H_take (i := 0) rfl (by kernel_rfl) (by kernel_rfl) (by kernel_rfl) rfl (pq_then (pq_block (pq_then (pq_then (pq_block (pq_then pq_body)))))) ⟨hE, hB1_0, trivial⟩ rfl (fun w hw => R_move rfl) ?_
  refine H_take (i := 1) rfl (by kernel_rfl) (by kernel_rfl) (by kernel_rfl) rfl (pq_then (pq_block (pq_then (pq_then (pq_block (pq_then pq_body)))))) ⟨hE, hB1_0, trivial⟩ rfl (fun w hw => R_move rfl) ?_
  refine H_take (i := 2) rfl (by kernel_rfl) (by kernel_rfl) (by kernel_rfl) rfl (pq_then (pq_block (pq_then (pq_then (pq_block (pq_then pq_body)))))) ⟨hE, hB1_0, trivial⟩ rfl (fun w hw => R_indexAddrA Try.runUnderlying24 Try.sizeOf5 rfl rfl (by decide) (by decide)) ?_
  refine H_take (i := 3) rfl (by kernel_rfl) (by kernel_rfl) (by kernel_rfl) rfl (pq_then (pq_block (pq_then (pq_then (pq_block (pq_then pq_body)))))) ⟨hE, hB1_0, trivial⟩ rfl (fun w hw => R_load Try.isAgg5 hw.2.1 rfl rfl) ?_
  refine H_take (i := 4) rfl (by kernel_rfl) (by kernel_rfl) (by kernel_rfl) rfl (pq_then (pq_block (pq_then (pq_then (pq_block (pq_then pq_body)))))) ⟨hE, hB1_0, trivial⟩ rfl (fun w hw => R_shrB rfl rfl) ?_
  refine H_take (i := 5) rfl (by kernel_rfl) (by kernel_rfl) (by kernel_rfl) rfl (pq_then (pq_block (pq_then (pq_then (pq_block (pq_then pq_body)))))) ⟨hE, hB1_0, trivial⟩ rfl (fun w hw => R_convN (e := ((m).b1.toNat / 16)) Try.runUnderlying5 Try.runUnderlying3 rfl (by (try simp only [List.length_take, List.length_drop, List.length_append, List.length_cons, List.length_nil, List.length_replicate, List.length_set, Nm.b_len, be2_len]); omega)) ?_
  refine H_take (i := 6) rfl (by kernel_rfl) (by kernel_rfl) (by kernel_rfl) rfl (pq_then (pq_block (pq_then (pq_then (pq_block (pq_then pq_body)))))) ⟨hE, hB1_0, trivial⟩ rfl (fun w hw => R_move rfl) ?_
  refine H_take (i := 7) rfl (by kernel_rfl) (by kernel_rfl) (by kernel_rfl) rfl (pq_then (pq_block (pq_then (pq_then (pq_block (pq_then pq_body)))))) ⟨hE, hB1_0, trivial⟩ rfl (fun w hw => R_indexAddrA Try.runUnderlying24 Try.sizeOf5 rfl rfl (by decide) (by decide)) ?_
  refine H_take (i := 8) rfl (by kernel_rfl) (by kernel_rfl) (by kernel_rfl) rfl (pq_then (pq_block (pq_then (pq_then (pq_block (pq_then pq_body)))))) ⟨hE, hB1_0, trivial⟩ rfl (fun w hw => R_load Try.isAgg5 hw.2.1 rfl rfl) ?_
  refine H_take (i := 9) rfl (by kernel_rfl) (by kernel_rfl) (by kernel_rfl) rfl (pq_then (pq_block (pq_then (pq_then (pq_block (pq_then pq_body)))))) ⟨hE, hB1_0, trivial⟩ rfl (fun w hw => R_andB rfl rfl) ?_
  refine H_take (i := 10) rfl (by kernel_rfl) (by kernel_rfl) (by kernel_rfl) rfl (pq_then (pq_block (pq_then (pq_then (pq_block (pq_then pq_body)))))) ⟨hE, hB1_0, trivial⟩ rfl (fun w hw => R_convN (e := ((m).b1.toNat % 16)) Try.runUnderlying5 Try.runUnderlying3 rfl (by (try simp only [List.length_take, List.length_drop, List.length_append, List.length_cons, List.length_nil, List.length_replicate, List.length_set, Nm.b_len, be2_len]); omega)) ?_
  refine H_op (i := 11) (by kernel_rfl) rfl rfl (D_buildI2 (lo := w.heap.size) (a := ((m).b1.toNat / 16)) (b := ((m).b1.toNat % 16)) Try.underlying161 Try.sizeOf3 Try.zeroValue3 (mapp2 rfl rfl) (fun v10_11 w10_11 o10_11 e10_11 => ?_))
  have zv6_12_v10_11 := own_apart o6_12.1 o10_11.1
  have zv10_11_v6_12 := fun k hk hk2 => zv6_12_v10_11 k hk2 hk
  replace o10_11 := o10_11.low hE.size
  replace hE := hE.trans e10_11
  replace hB1_0 := hB1_0.ext e10_11
  replace o6_12 := o6_12.ext e10_11
  refine ⟨⟨hE, hB1_0, trivial⟩, ?_⟩
  refine H_op (i := 12) (by kernel_rfl) rfl rfl (D_appendL elt3 Try.underlying161 rfl rfl o6_12 (Nat.le_refl _) o10_11.ls (by (try simp only [List.length_take, List.length_drop, List.length_append, List.length_cons, List.length_nil, List.length_replicate, List.length_set, Nm.b_len, be2_len]); omega) (by (try simp only [List.length_take, List.length_drop, List.length_append, List.length_cons, List.length_nil, List.length_replicate, List.length_set, Nm.b_len, be2_len]); omega) hE.size (fun v10_12 w10_12 o10_12 g10_12 f10_12 sv10_12 => ?_))
  have zv10_11_v10_12 : ∀ k, Value.ownBlock v10_11 = some k → Value.ownBlock v10_12 ≠ some k := fun k hk2 hk => (sv10_12 _ hk).elim (fun h => zv10_11_v6_12 k hk2 h) (fun h => absurd h (Nat.not_le.2 (own_lt o10_11.1 hk2)))
  have zv10_12_v10_11 := fun k hk hk2 => zv10_11_v10_12 k hk2 hk
  replace hE := hE.grown g10_12 (fun k hk => own_ge o6_12.1 hk)
  replace hB1_0 := hB1_0.grown g10_12 (own_neB o6_12.1 hB1_0 rfl)
  replace o10_11 := o10_11.grown g10_12 (zv10_11_v6_12) f10_12
  refine ⟨⟨hE, hB1_0, trivial⟩, ?_⟩
  refine H_take (i := 13) rfl (by kernel_rfl) (by kernel_rfl) (by kernel_rfl) rfl (pq_then (pq_block (pq_then (pq_then (pq_block (pq_then pq_body)))))) ⟨hE, hB1_0, trivial⟩ rfl (fun w hw => R_assign rfl) ?_
  refine H_done (by kernel_rfl) ?_
  refine T_tn ?_
  refine W_draw mixed (by kernel_rfl) ?_
  refine Q_v (fun w hw => R_move rfl) ?_
  refine Q_v (fun w hw => R_move rfl) ?_
  refine Q_v (fun w hw => R_indexAddrA Try.runUnderlying24 Try.sizeOf5 rfl rfl (by decide) (by decide)) ?_
  refine Q_v (fun w hw => R_load Try.isAgg5 (hB1_0.ext hw) rfl rfl) ?_
  refine Q_v (fun w hw => R_shrB rfl rfl) ?_
  refine Q_v (fun w hw => R_convN (e := ((m).b1.toNat / 16)) Try.runUnderlying5 Try.runUnderlying3 rfl (by (try simp only [List.length_take, List.length_drop, List.length_append, List.length_cons, List.length_nil, List.length_replicate, List.length_set, Nm.b_len, be2_len]); omega)) ?_
  refine Q_v (fun w hw => R_subN (m := ((240 - ((m).b0.toNat / 16)) - ((m).b0.toNat % 16))) (j := ((m).b1.toNat / 16)) rfl rfl (by (try simp only [List.length_take, List.length_drop, List.length_append, List.length_cons, List.length_nil, List.length_replicate, List.length_set, Nm.b_len, be2_len]); omega) (by (try simp only [List.length_take, List.length_drop, List.length_append, List.length_cons, List.length_nil, List.length_replicate, List.length_set, Nm.b_len, be2_len]); omega)) ?_
  refine Q_v (fun w hw => R_move rfl) ?_
  refine Q_v (fun w hw => R_indexAddrA Try.runUnderlying24 Try.sizeOf5 rfl rfl (by decide) (by decide)) ?_
  refine Q_v (fun w hw => R_load Try.isAgg5 (hB1_0.ext hw) rfl rfl) ?_
  refine Q_v (fun w hw => R_andB rfl rfl) ?_
  refine Q_v (fun w hw => R_convN (e := ((m).b1.toNat % 16)) Try.runUnderlying5 Try.runUnderlying3 rfl (by (try simp only [List.length_take, List.length_drop, List.length_append, List.length_cons, List.length_nil, List.length_replicate, List.length_set, Nm.b_len, be2_len]); omega)) ?_
  refine Q_v (fun w hw => R_subN (m := (((240 - ((m).b0.toNat / 16)) - ((m).b0.toNat % 16)) - ((m).b1.toNat / 16))) (j := ((m).b1.toNat % 16)) rfl rfl (by (try simp only [List.length_take, List.length_drop, List.length_append, List.length_cons, List.length_nil, List.length_replicate, List.length_set, Nm.b_len, be2_len]); omega) (by (try simp only [List.length_take, List.length_drop, List.length_append, List.length_cons, List.length_nil, List.length_replicate, List.length_set, Nm.b_len, be2_len]); omega)) ?_
  refine Q_v (fun w hw => R_assign rfl) ?_
  refine Q_nil (fun w11_99 e11_99 => ?_)
  replace hE := hE.trans e11_99
  replace hB1_0 := hB1_0.ext e11_99
  replace o10_12 := o10_12.ext e11_99
  refine T_bn ?_
  refine T_tn ?_
  refine W_region ?_
  refine L (D_v (R_move rfl) ?_)
  refine L (D_v (R_cast (v' := .int .i64 (2)) (R_addI rfl rfl) rfl) ?_)
  refine L (D_v (R_assign rfl) ?_)
  refine S_nil ?_
  refine T_tn ?_
  refine W_round ?_
  refine wp_seq ?_
  refine wp_seq ?_
  refine W_region ?_
  refine L (D_v (R_move rfl) ?_)
  refine L (D_v (R_cast (v' := .bool true) (R_lssI rfl rfl) rfl) ?_)
  refine S_nil ?_
  refine T_tn ?_
  refine W_ift rfl ?_
  refine wp_skip ?_
  refine T_tn ?_
  refine wp_seq ?_
  refine wp_block ?_
  refine wp_seq ?_
  refine W_held (fun W => Ext w W ∧ Blk W aB1_0 (m).l 24 ∧ True) mixed (fun w14_99 e14_99 => ?_)
  replace hE := hE.trans e14_99
  replace hB1_0 := hB1_0.ext e14_99
  replace o10_12 := o10_12.ext e14_99
  refine H_take (i := 0) rfl (by kernel_rfl) (by kernel_rfl) (by kernel_rfl) rfl (pq_then (pq_block (pq_then (pq_then (pq_block (pq_then pq_body)))))) ⟨hE, hB1_0, trivial⟩ rfl (fun w hw => R_move rfl) ?_
  refine H_take (i := 1) rfl (by kernel_rfl) (by kernel_rfl) (by kernel_rfl) rfl (pq_then (pq_block (pq_then (pq_then (pq_block (pq_then pq_body)))))) ⟨hE, hB1_0, trivial⟩ rfl (fun w hw => R_move rfl) ?_
  refine H_take (i := 2) rfl (by kernel_rfl) (by kernel_rfl) (by kernel_rfl) rfl (pq_then (pq_block (pq_then (pq_then (pq_block (pq_then pq_body)))))) ⟨hE, hB1_0, trivial⟩ rfl (fun w hw => R_indexAddrA Try.runUnderlying24 Try.sizeOf5 rfl rfl (by decide) (by decide)) ?_
  refine H_take (i := 3) rfl (by kernel_rfl) (by kernel_rfl) (by kernel_rfl) rfl (pq_then (pq_block (pq_then (pq_then (pq_block (pq_then pq_body)))))) ⟨hE, hB1_0, trivial⟩ rfl (fun w hw => R_load Try.isAgg5 hw.2.1 rfl rfl) ?_
  refine H_take (i := 4) rfl (by kernel_rfl) (by kernel_rfl) (by kernel_rfl) rfl (pq_then (pq_block (pq_then (pq_then (pq_block (pq_then pq_body)))))) ⟨hE, hB1_0, trivial⟩ rfl (fun w hw => R_shrB rfl rfl) ?_
  refine H_take (i := 5) rfl (by kernel_rfl) (by kernel_rfl) (by kernel_rfl) rfl (pq_then (pq_block (pq_then (pq_then (pq_block (pq_then pq_body)))))) ⟨hE, hB1_0, trivial⟩ rfl (fun w hw => R_convN (e := ((m).b2.toNat / 16)) Try.runUnderlying5 Try.runUnderlying3 rfl (by (try simp only [List.length_take, List.length_drop, List.length_append, List.length_cons, List.length_nil, List.length_replicate, List.length_set, Nm.b_len, be2_len]); omega)) ?_
  refine H_take (i := 6) rfl (by kernel_rfl) (by kernel_rfl) (by kernel_rfl) rfl (pq_then (pq_block (pq_then (pq_then (pq_block (pq_then pq_body)))))) ⟨hE, hB1_0, trivial⟩ rfl (fun w hw => R_move rfl) ?_
  refine H_take (i := 7) rfl (by kernel_rfl) (by kernel_rfl) (by kernel_rfl) rfl (pq_then (pq_block (pq_then (pq_then (pq_block (pq_then pq_body)))))) ⟨hE, hB1_0, trivial⟩ rfl (fun w hw => R_indexAddrA Try.runUnderlying24 Try.sizeOf5 rfl rfl (by decide) (by decide)) ?_
  refine H_take (i := 8) rfl (by kernel_rfl) (by kernel_rfl) (by kernel_rfl) rfl (pq_then (pq_block (pq_then (pq_then (pq_block (pq_then pq_body)))))) ⟨hE, hB1_0, trivial⟩ rfl (fun w hw => R_load Try.isAgg5 hw.2.1 rfl rfl) ?_
  refine H_take (i := 9) rfl (by kernel_rfl) (by kernel_rfl) (by kernel_rfl) rfl (pq_then (pq_block (pq_then (pq_then (pq_block (pq_then pq_body)))))) ⟨hE, hB1_0, trivial⟩ rfl (fun w hw => R_andB rfl rfl) ?_
  refine H_take (i := 10) rfl (by kernel_rfl) (by kernel_rfl) (by kernel_rfl) rfl (pq_then (pq_block (pq_then (pq_then (pq_block (pq_then pq_body)))))) ⟨hE, hB1_0, trivial⟩ rfl (fun w hw => R_convN (e := ((m).b2.toNat % 16)) Try.runUnderlying5 Try.runUnderlying3 rfl (by (try simp only [List.length_take, List.length_drop, List.length_append, List.length_cons, List.length_nil, List.length_replicate, List.length_set, Nm.b_len, be2_len]); omega)) ?_
  refine H_op (i := 11) (by kernel_rfl) rfl rfl (D_buildI2 (lo := w.heap.size) (a := ((m).b2.toNat / 16)) (b := ((m).b2.toNat % 16)) Try.underlying161 Try.sizeOf3 Try.zeroValue3 (mapp2 rfl rfl) (fun v14_11 w14_11 o14_11 e14_11 => ?_))
  have zv10_12_v14_11 := own_apart o10_12.1 o14_11.1
  have zv14_11_v10_12 := fun k hk hk2 => zv10_12_v14_11 k hk2 hk
  replace o14_11 := o14_11.low hE.size
  replace hE := hE.trans e14_11
  replace hB1_0 := hB1_0.ext e14_11
  replace o10_12 := o10_12.ext e14_11
  refine ⟨⟨hE, hB1_0, trivial⟩, ?_⟩
  refine H_op (i := 12) (by kernel_rfl) rfl rfl (D_appendL elt3 Try.underlying161 rfl rfl o10_12 (Nat.le_refl _) o14_11.ls (by (try simp only [List.length_take, List.length_drop, List.length_append, List.length_cons, List.length_nil, List.length_replicate, List.length_set, Nm.b_len, be2_len]); omega) (by (try simp only [List.length_take, List.length_drop, List.length_append, List.length_cons, List.length_nil, List.length_replicate, List.length_set, Nm.b_len, be2_len]); omega) hE.size (fun v14_12 w14_12 o14_12 g14_12 f14_12 sv14_12 => ?_))
  have zv14_11_v14_12 : ∀ k, Value.ownBlock v14_11 = some k → Value.ownBlock v14_12 ≠ some k := fun k hk2 hk => (sv14_12 _ hk).elim (fun h => zv14_11_v10_12 k hk2 h) (fun h => absurd h (Nat.not_le.2 (own_lt o14_11.1 hk2)))
  have zv14_12_v14_11 := fun k hk hk2 => zv14_11_v14_12 k hk2 hk
  replace hE := hE.grown g14_12 (fun k hk => own_ge o10_12.1 hk)
  replace hB1_0 := hB1_0.grown g14_12 (own_neB o10_12.1 hB1_0 rfl)
  replace o14_11 := o14_11.grown g14_12 (zv14_11_v10_12) f14_12
  refine ⟨⟨hE, hB1_0, trivial⟩, ?_⟩
  refine H_take (i := 13) rfl (by kernel_rfl) (by kernel_rfl) (by kernel_rfl) rfl (pq_then (pq_block (pq_then (pq_then (pq_block (pq_then pq_body)))))) ⟨hE, hB1_0, trivial⟩ rfl (fun w hw => R_assign rfl) ?_
  refine H_done (by kernel_rfl) ?_
  refine T_tn ?_
  refine W_draw mixed (by kernel_rfl) ?_
  refine Q_v (fun w hw => R_move rfl) ?_
  refine Q_v (fun w hw => R_move rfl) ?_
  refine Q_v (fun w hw => R_indexAddrA Try.runUnderlying24 Try.sizeOf5 rfl rfl (by decide) (by decide)) ?_
  refine Q_v (fun w hw => R_load Try.isAgg5 (hB1_0.ext hw) rfl rfl) ?_
  refine Q_v (fun w hw => R_shrB rfl rfl) ?_
  refine Q_v (fun w hw => R_convN (e := ((m).b2.toNat / 16)) Try.runUnderlying5 Try.runUnderlying3 rfl (by (try simp only [List.length_take, List.length_drop, List.length_append, List.length_cons, List.length_nil, List.length_replicate, List.length_set, Nm.b_len, be2_len]); omega)) ?_
  refine Q_v (fun w hw => R_subN (m := ((((240 - ((m).b0.toNat / 16)) - ((m).b0.toNat % 16)) - ((m).b1.toNat / 16)) - ((m).b1.toNat % 16))) (j := ((m).b2.toNat / 16)) rfl rfl (by (try simp only [List.length_take, List.length_drop, List.length_append, List.length_cons, List.length_nil, List.length_replicate, List.length_set, Nm.b_len, be2_len]); omega) (by (try simp only [List.length_take, List.length_drop, List.length_append, List.length_cons, List.length_nil, List.length_replicate, List.length_set, Nm.b_len, be2_len]); omega)) ?_
  refine Q_v (fun w hw => R_move rfl) ?_
  refine Q_v (fun w hw => R_indexAddrA Try.runUnderlying24 Try.sizeOf5 rfl rfl (by decide) (by decide)) ?_
  refine Q_v (fun w hw => R_load Try.isAgg5 (hB1_0.ext hw) rfl rfl) ?_
  refine Q_v (fun w hw => R_andB rfl rfl) ?_
  refine Q_v (fun w hw => R_convN (e := ((m).b2.toNat % 16)) Try.runUnderlying5 Try.runUnderlying3 rfl (by (try simp only [List.length_take, List.length_drop, List.length_append, List.length_cons, List.length_nil, List.length_replicate, List.length_set, Nm.b_len, be2_len]); omega)) ?_
  refine Q_v (fun w hw => R_subN (m := (((((240 - ((m).b0.toNat / 16)) - ((m).b0.toNat % 16)) - ((m).b1.toNat / 16)) - ((m).b1.toNat % 16)) - ((m).b2.toNat / 16))) (j := ((m).b2.toNat % 16)) rfl rfl (by (try simp only [List.length_take, List.length_drop, List.length_append, List.length_cons, List.length_nil, List.length_replicate, List.length_set, Nm.b_len, be2_len]); omega) (by (try simp only [List.length_take, List.length_drop, List.length_append, List.length_cons, List.length_nil, List.length_replicate, List.length_set, Nm.b_len, be2_len]); omega)) ?_
  refine Q_v (fun w hw => R_assign rfl) ?_
  refine Q_nil (fun w15_99 e15_99 => ?_)
  replace hE := hE.trans e15_99
  replace hB1_0 := hB1_0.ext e15_99
  replace o14_12 := o14_12.ext e15_99
  refine T_bn ?_
  refine T_tn ?_
  refine W_region ?_
  refine L (D_v (R_move rfl) ?_)
  refine L (D_v (R_cast (v' := .int .i64 (3)) (R_addI rfl rfl) rfl) ?_)
  refine L (D_v (R_assign rfl) ?_)
  refine S_nil ?_
  refine T_tn ?_
  refine W_round ?_
  refine wp_seq ?_
  refine wp_seq ?_
  refine W_region ?_
  refine L (D_v (R_move rfl) ?_)
  refine L (D_v (R_cast (v' := .bool true) (R_lssI rfl rfl) rfl) ?_)
  refine S_nil ?_
  refine T_tn ?_
  refine W_ift rfl ?_
  refine wp_skip ?_
  refine T_tn ?_
  refine wp_seq ?_
  refine wp_block ?_
  refine wp_seq ?_
  refine W_held (fun W => Ext w W ∧ Blk W aB1_0 (m).l 24 ∧ True) mixed (fun w18_99 e18_99 => ?_)
  replace hE := hE.trans e18_99
  replace hB1_0 := hB1_0.ext e18_99
  replace o14_12 := o14_12.ext e18_99
  refine H_take (i := 0) rfl (by kernel_rfl) (by kernel_rfl) (by kernel_rfl) rfl (pq_then (pq_block (pq_then (pq_then (pq_block (pq_then pq_body)))))) ⟨hE, hB1_0, trivial⟩ rfl (fun w hw => R_move rfl) ?_
  refine H_take (i := 1) rfl (by kernel_rfl) (by kernel_rfl) (by kernel_rfl) rfl (pq_then (pq_block (pq_then (pq_then (pq_block (pq_then pq_body)))))) ⟨hE, hB1_0, trivial⟩ rfl (fun w hw => R_move rfl) ?_
  refine H_take (i := 2) rfl (by kernel_rfl) (by kernel_rfl) (by kernel_rfl) rfl (pq_then (pq_block (pq_then (pq_then (pq_block (pq_then pq_body)))))) ⟨hE, hB1_0, trivial⟩ rfl (fun w hw => R_indexAddrA Try.runUnderlying24 Try.sizeOf5 rfl rfl (by decide) (by decide)) ?_
  refine H_take (i := 3) rfl (by kernel_rfl) (by kernel_rfl) (by kernel_rfl) rfl (pq_then (pq_block (pq_then (pq_then (pq_block (pq_then pq_body)))))) ⟨hE, hB1_0, trivial⟩ rfl (fun w hw => R_load Try.isAgg5 hw.2.1 rfl rfl) ?_
  refine H_take (i := 4) rfl (by kernel_rfl) (by kernel_rfl) (by kernel_rfl) rfl (pq_then (pq_block (pq_then (pq_then (pq_block (pq_then pq_body)))))) ⟨hE, hB1_0, trivial⟩ rfl (fun w hw => R_shrB rfl rfl) ?_
  refine H_take (i := 5) rfl (by kernel_rfl) (by kernel_rfl) (by kernel_rfl) rfl (pq_then (pq_block (pq_then (pq_then (pq_block (pq_then pq_body)))))) ⟨hE, hB1_0, trivial⟩ rfl (fun w hw => R_convN (e := ((m).b3.toNat / 16)) Try.runUnderlying5 Try.runUnderlying3 rfl (by (try simp only [List.length_take, List.length_drop, List.length_append, List.length_cons, List.length_nil, List.length_replicate, List.length_set, Nm.b_len, be2_len]); omega)) ?_
  refine H_take (i := 6) rfl (by kernel_rfl) (by kernel_rfl) (by kernel_rfl) rfl (pq_then (pq_block (pq_then (pq_then (pq_block (pq_then pq_body)))))) ⟨hE, hB1_0, trivial⟩ rfl (fun w hw => R_move rfl) ?_
  refine H_take (i := 7) rfl (by kernel_rfl) (by kernel_rfl) (by kernel_rfl) rfl (pq_then (pq_block (pq_then (pq_then (pq_block (pq_then pq_body)))))) ⟨hE, hB1_0, trivial⟩ rfl (fun w hw => R_indexAddrA Try.runUnderlying24 Try.sizeOf5 rfl rfl (by decide) (by decide)) ?_
  refine H_take (i := 8) rfl (by kernel_rfl) (by kernel_rfl) (by kernel_rfl) rfl (pq_then (pq_block (pq_then (pq_then (pq_block (pq_then pq_body)))))) ⟨hE, hB1_0, trivial⟩ rfl (fun w hw => R_load Try.isAgg5 hw.2.1 rfl rfl) ?_
  refine H_take (i := 9) rfl (by kernel_rfl) (by kernel_rfl) (by kernel_rfl) rfl (pq_then (pq_block (pq_then (pq_then (pq_block (pq_then pq_body)))))) ⟨hE, hB1_0, trivial⟩ rfl (fun w hw => R_andB rfl rfl) ?_
  refine H_take (i := 10) rfl (by kernel_rfl) (by kernel_rfl) (by kernel_rfl) rfl (pq_then (pq_block (pq_then (pq_then (pq_block (pq_then pq_body)))))) ⟨hE, hB1_0, trivial⟩ rfl (fun w hw => R_convN (e := ((m).b3.toNat % 16)) Try.runUnderlying5 Try.runUnderlying3 rfl (by (try simp only [List.length_take, List.length_drop, List.length_append, List.length_cons, List.length_nil, List.length_replicate, List.length_set, Nm.b_len, be2_len]); omega)) ?_
  refine H_op (i := 11) (by kernel_rfl) rfl rfl (D_buildI2 (lo := w.heap.size) (a := ((m).b3.toNat / 16)) (b := ((m).b3.toNat % 16)) Try.underlying161 Try.sizeOf3 Try.zeroValue3 (mapp2 rfl rfl) (fun v18_11 w18_11 o18_11 e18_11 => ?_))
  have zv14_12_v18_11 := own_apart o14_12.1 o18_11.1
  have zv18_11_v14_12 := fun k hk hk2 => zv14_12_v18_11 k hk2 hk
  replace o18_11 := o18_11.low hE.size
  replace hE := hE.trans e18_11
  replace hB1_0 := hB1_0.ext e18_11
  replace o14_12 := o14_12.ext e18_11
  refine ⟨⟨hE, hB1_0, trivial⟩, ?_⟩
  refine H_op (i := 12) (by kernel_rfl) rfl rfl (D_appendL elt3 Try.underlying161 rfl rfl o14_12 (Nat.le_refl _) o18_11.ls (by (try simp only [List.length_take, List.length_drop, List.length_append, List.length_cons, List.length_nil, List.length_replicate, List.length_set, Nm.b_len, be2_len]); omega) (by (try simp only [List.length_take, List.length_drop, List.length_append, List.length_cons, List.length_nil, List.length_replicate, List.length_set, Nm.b_len, be2_len]); omega) hE.size (fun v18_12 w18_12 o18_12 g18_12 f18_12 sv18_12 => ?_))
  have zv18_11_v18_12 : ∀ k, Value.ownBlock v18_11 = some k → Value.ownBlock v18_12 ≠ some k := fun k hk2 hk => (sv18_12 _ hk).elim (fun h => zv18_11_v14_12 k hk2 h) (fun h => absurd h (Nat.not_le.2 (own_lt o18_11.1 hk2)))
  have zv18_12_v18_11 := fun k hk hk2 => zv18_11_v18_12 k hk2 hk
  replace hE := hE.grown g18_12 (fun k hk => own_ge o14_12.1 hk)
  replace hB1_0 := hB1_0.grown g18_12 (own_neB o14_12.1 hB1_0 rfl)
  replace o18_11 := o18_11.grown g18_12 (zv18_11_v14_12) f18_12
  refine ⟨⟨hE, hB1_0, trivial⟩, ?_⟩
  refine H_take (i := 13) rfl (by kernel_rfl) (by kernel_rfl) (by kernel_rfl) rfl (pq_then (pq_block (pq_then (pq_then (pq_block (pq_then pq_body)))))) ⟨hE, hB1_0, trivial⟩ rfl (fun w hw => R_assign rfl) ?_
  refine H_done (by kernel_rfl) ?_
  refine T_tn ?_
  refine W_draw mixed (by kernel_rfl) ?_
  refine Q_v (fun w hw => R_move rfl) ?_
  refine Q_v (fun w hw => R_move rfl) ?_
  refine Q_v (fun w hw => R_indexAddrA Try.runUnderlying24 Try.sizeOf5 rfl rfl (by decide) (by decide)) ?_
  refine Q_v (fun w hw => R_load Try.isAgg5 (hB1_0.ext hw) rfl rfl) ?_
  refine Q_v (fun w hw => R_shrB rfl rfl) ?_
  refine Q_v (fun w hw => R_convN (e := ((m).b3.toNat / 16)) Try.runUnderlying5 Try.runUnderlying3 rfl (by (try simp only [List.length_take, List.length_drop, List.length_append, List.length_cons, List.length_nil, List.length_replicate, List.length_set, Nm.b_len, be2_len]); omega)) ?_
  refine Q_v (fun w hw => R_subN (m := ((((((240 - ((m).b0.toNat / 16)) - ((m).b0.toNat % 16)) - ((m).b1.toNat / 16)) - ((m).b1.toNat % 16)) - ((m).b2.toNat / 16)) - ((m).b2.toNat % 16))) (j := ((m).b3.toNat / 16)) rfl rfl (by (try simp only [List.length_take, List.length_drop, List.length_append, List.length_cons, List.length_nil, List.length_replicate, List.length_set, Nm.b_len, be2_len]); omega) (by (try simp only [List.length_take, List.length_drop, List.length_append, List.length_cons, List.length_nil, List.length_replicate, List.length_set, Nm.b_len, be2_len]); omega)) ?_
  refine Q_v (fun w hw => R_move rfl) ?_
  refine Q_v (fun w hw => R_indexAddrA Try.runUnderlying24 Try.sizeOf5 rfl rfl (by decide) (by decide)) ?_
  refine Q_v (fun w hw => R_load Try.isAgg5 (hB1_0.ext hw) rfl rfl) ?_
  refine Q_v (fun w hw => R_andB rfl rfl) ?_
  refine Q_v (fun w hw => R_convN (e := ((m).b3.toNat % 16)) Try.runUnderlying5 Try.runUnderlying3 rfl (by (try simp only [List.length_take, List.length_drop, List.length_append, List.length_cons, List.length_nil, List.length_replicate, List.length_set, Nm.b_len, be2_len]); omega)) ?_
  refine Q_v (fun w hw => R_subN (m := (((((((240 - ((m).b0.toNat / 16)) - ((m).b0.toNat % 16)) - ((m).b1.toNat / 16)) - ((m).b1.toNat % 16)) - ((m).b2.toNat / 16)) - ((m).b2.toNat % 16)) - ((m).b3.toNat / 16))) (j := ((m).b3.toNat % 16)) rfl rfl (by (try simp only [List.length_take, List.length_drop, List.length_append, List.length_cons, List.length_nil, List.length_replicate, List.length_set, Nm.b_len, be2_len]); omega) (by (try simp only [List.length_take, List.length_drop, List.length_append, List.length_cons, List.length_nil, List.length_replicate, List.length_set, Nm.b_len, be2_len]); omega)) ?_
  refine Q_v (fun w hw => R_assign rfl) ?_
  refine Q_nil (fun w19_99 e19_99 => ?_)
  replace hE := hE.trans e19_99
  replace hB1_0 := hB1_0.ext e19_99
  replace o18_12 := o18_12.ext e19_99
  refine T_bn ?_
  refine T_tn ?_
  refine W_region ?_
  refine L (D_v (R_move rfl) ?_)
  refine L (D_v (R_cast (v' := .int .i64 (4)) (R_addI rfl rfl) rfl) ?_)
  refine L (D_v (R_assign rfl) ?_)
  refine S_nil ?_
  refine T_tn ?_
  refine W_round ?_
  refine wp_seq ?_
  refine wp_seq ?_
  refine W_region ?_
  refine L (D_v (R_move rfl) ?_)
  refine L (D_v (R_cast (v' := .bool true) (R_lssI rfl rfl) rfl) ?_)
  refine S_nil ?_
  refine T_tn ?_
  refine W_ift rfl ?_
  refine wp_skip ?_
  refine T_tn ?_
  refine wp_seq ?_
  refine wp_block ?_
  refine wp_seq ?_
  refine W_held (fun W => Ext w W ∧ Blk W aB1_0 (m).l 24 ∧ True) mixed (fun w22_99 e22_99 => ?_)
  replace hE := hE.trans e22_99
  replace hB1_0 := hB1_0.ext e22_99
  replace o18_12 := o18_12.ext e22_99
  refine H_take (i := 0) rfl (by kernel_rfl) (by kernel_rfl) (by kernel_rfl) rfl (pq_then (pq_block (pq_then (pq_then (pq_block (pq_then pq_body)))))) ⟨hE, hB1_0, trivial⟩ rfl (fun w hw => R_move rfl) ?_
  refine H_take (i := 1) rfl (by kernel_rfl) (by kernel_rfl) (by kernel_rfl) rfl (pq_then (pq_block (pq_then (pq_then (pq_block (pq_then pq_body)))))) ⟨hE, hB1_0, trivial⟩ rfl (fun w hw => R_move rfl) ?_
  refine H_take (i := 2) rfl (by kernel_rfl) (by kernel_rfl) (by kernel_rfl) rfl (pq_then (pq_block (pq_then (pq_then (pq_block (pq_then pq_body)))))) ⟨hE, hB1_0, trivial⟩ rfl (fun w hw => R_indexAddrA Try.runUnderlying24 Try.sizeOf5 rfl rfl (by decide) (by decide)) ?_
  refine H_take (i := 3) rfl (by kernel_rfl) (by kernel_rfl) (by kernel_rfl) rfl (pq_then (pq_block (pq_then (pq_then (pq_block (pq_then pq_body)))))) ⟨hE, hB1_0, trivial⟩ rfl (fun w hw => R_load Try.isAgg5 hw.2.1 rfl rfl) ?_
  refine H_take (i := 4) rfl (by kernel_rfl) (by kernel_rfl) (by kernel_rfl) rfl (pq_then (pq_block (pq_then (pq_then (pq_block (pq_then pq_body)))))) ⟨hE, hB1_0, trivial⟩ rfl (fun w hw => R_shrB rfl rfl) ?_
  refine H_take (i := 5) rfl (by kernel_rfl) (by kernel_rfl) (by kernel_rfl) rfl (pq_then (pq_block (pq_then (pq_then (pq_block (pq_then pq_body)))))) ⟨hE, hB1_0, trivial⟩ rfl (fun w hw => R_convN (e := ((m).b4.toNat / 16)) Try.runUnderlying5 Try.runUnderlying3 rfl (by (try simp only [List.length_take, List.length_drop, List.length_append, List.length_cons, List.length_nil, List.length_replicate, List.length_set, Nm.b_len, be2_len]); omega)) ?_
  refine H_take (i := 6) rfl (by kernel_rfl) (by kernel_rfl) (by kernel_rfl) rfl (pq_then (pq_block (pq_then (pq_then (pq_block (pq_then pq_body)))))) ⟨hE, hB1_0, trivial⟩ rfl (fun w hw => R_move rfl) ?_
  refine H_take (i := 7) rfl (by kernel_rfl) (by kernel_rfl) (by kernel_rfl) rfl (pq_then (pq_block (pq_then (pq_then (pq_block (pq_then pq_body)))))) ⟨hE, hB1_0, trivial⟩ rfl (fun w hw => R_indexAddrA Try.runUnderlying24 Try.sizeOf5 rfl rfl (by decide) (by decide)) ?_
  refine H_take (i := 8) rfl (by kernel_rfl) (by kernel_rfl) (by kernel_rfl) rfl (pq_then (pq_block (pq_then (pq_then (pq_block (pq_then pq_body)))))) ⟨hE, hB1_0, trivial⟩ rfl (fun w hw => R_load Try.isAgg5 hw.2.1 rfl rfl) ?_
  refine H_take (i := 9) rfl (by kernel_rfl) (by kernel_rfl) (by kernel_rfl) rfl (pq_then (pq_block (pq_then (pq_then (pq_block (pq_then pq_body)))))) ⟨hE, hB1_0, trivial⟩ rfl (fun w hw => R_andB rfl rfl) ?_
  refine H_take (i := 10) rfl (by kernel_rfl) (by kernel_rfl) (by kernel_rfl) rfl (pq_then (pq_block (pq_then (pq_then (pq_block (pq_then pq_body)))))) ⟨hE, hB1_0, trivial⟩ rfl (fun w hw => R_convN (e := ((m).b4.toNat % 16)) Try.runUnderlying5 Try.runUnderlying3 rfl (by (try simp only [List.length_take, List.length_drop, List.length_append, List.length_cons, List.length_nil, List.length_replicate, List.length_set, Nm.b_len, be2_len]); omega)) ?_
  refine H_op (i := 11) (by kernel_rfl) rfl rfl (D_buildI2 (lo := w.heap.size) (a := ((m).b4.toNat / 16)) (b := ((m).b4.toNat % 16)) Try.underlying161 Try.sizeOf3 Try.zeroValue3 (mapp2 rfl rfl) (fun v22_11 w22_11 o22_11 e22_11 => ?_))
  have zv18_12_v22_11 := own_apart o18_12.1 o22_11.1
  have zv22_11_v18_12 := fun k hk hk2 => zv18_12_v22_11 k hk2 hk
  replace o22_11 := o22_11.low hE.size
  replace hE := hE.trans e22_11
  replace hB1_0 := hB1_0.ext e22_11
  replace o18_12 := o18_12.ext e22_11
  refine ⟨⟨hE, hB1_0, trivial⟩, ?_⟩
  refine H_op (i := 12) (by kernel_rfl) rfl rfl (D_appendL elt3 Try.underlying161 rfl rfl o18_12 (Nat.le_refl _) o22_11.ls (by (try simp only [List.length_take, List.length_drop, List.length_append, List.length_cons, List.length_nil, List.length_replicate, List.length_set, Nm.b_len, be2_len]); omega) (by (try simp only [List.length_take, List.length_drop, List.length_append, List.length_cons, List.length_nil, List.length_replicate, List.length_set, Nm.b_len, be2_len]); omega) hE.size (fun v22_12 w22_12 o22_12 g22_12 f22_12 sv22_12 => ?_))
  have zv22_11_v22_12 : ∀ k, Value.ownBlock v22_11 = some k → Value.ownBlock v22_12 ≠ some k := fun k hk2 hk => (sv22_12 _ hk).elim (fun h => zv22_11_v18_12 k hk2 h) (fun h => absurd h (Nat.not_le.2 (own_lt o22_11.1 hk2)))
  have zv22_12_v22_11 := fun k hk hk2 => zv22_11_v22_12 k hk2 hk
  replace hE := hE.grown g22_12 (fun k hk => own_ge o18_12.1 hk)
  replace hB1_0 := hB1_0.grown g22_12 (own_neB o18_12.1 hB1_0 rfl)
  replace o22_11 := o22_11.grown g22_12 (zv22_11_v18_12) f22_12
  refine ⟨⟨hE, hB1_0, trivial⟩, ?_⟩
  refine H_take (i := 13) rfl (by kernel_rfl) (by kernel_rfl) (by kernel_rfl) rfl (pq_then (pq_block (pq_then (pq_then (pq_block (pq_then pq_body)))))) ⟨hE, hB1_0, trivial⟩ rfl (fun w hw => R_assign rfl) ?_
  refine H_done (by kernel_rfl) ?_
  refine T_tn ?_
  refine W_draw mixed (by kernel_rfl) ?_
  refine Q_v (fun w hw => R_move rfl) ?_
  refine Q_v (fun w hw => R_move rfl) ?_
  refine Q_v (fun w hw => R_indexAddrA Try.runUnderlying24 Try.sizeOf5 rfl rfl (by decide) (by decide)) ?_
  refine Q_v (fun w hw => R_load Try.isAgg5 (hB1_0.ext hw) rfl rfl) ?_
  refine Q_v (fun w hw => R_shrB rfl rfl) ?_
  refine Q_v (fun w hw => R_convN (e := ((m).b4.toNat / 16)) Try.runUnderlying5 Try.runUnderlying3 rfl (by (try simp only [List.length_take, List.length_drop, List.length_append, List.length_cons, List.length_nil, List.length_replicate, List.length_set, Nm.b_len, be2_len]); omega)) ?_
  refine Q_v (fun w hw => R_subN (m := ((((((((240 - ((m).b0.toNat / 16)) - ((m).b0.toNat % 16)) - ((m).b1.toNat / 16)) - ((m).b1.toNat % 16)) - ((m).b2.toNat / 16)) - ((m).b2.toNat % 16)) - ((m).b3.toNat / 16)) - ((m).b3.toNat % 16))) (j := ((m).b4.toNat / 16)) rfl rfl (by (try simp only [List.length_take, List.length_drop, List.length_append, List.length_cons, List.length_nil, List.length_replicate, List.length_set, Nm.b_len, be2_len]); omega) (by (try simp only [List.length_take, List.length_drop, List.length_append, List.length_cons, List.length_nil, List.length_replicate, List.length_set, Nm.b_len, be2_len]); omega)) ?_
  refine Q_v (fun w hw => R_move rfl) ?_
  refine Q_v (fun w hw => R_indexAddrA Try.runUnderlying24 Try.sizeOf5 rfl rfl (by decide) (by decide)) ?_
  refine Q_v (fun w hw => R_load Try.isAgg5 (hB1_0.ext hw) rfl rfl) ?_
  refine Q_v (fun w hw => R_andB rfl rfl) ?_
  refine Q_v (fun w hw => R_convN (e := ((m).b4.toNat % 16)) Try.runUnderlying5 Try.runUnderlying3 rfl (by (try simp only [List.length_take, List.length_drop, List.length_append, List.length_cons, List.length_nil, List.length_replicate, List.length_set, Nm.b_len, be2_len]); omega)) ?_
  refine Q_v (fun w hw => R_subN (m := (((((((((240 - ((m).b0.toNat / 16)) - ((m).b0.toNat % 16)) - ((m).b1.toNat / 16)) - ((m).b1.toNat % 16)) - ((m).b2.toNat / 16)) - ((m).b2.toNat % 16)) - ((m).b3.toNat / 16)) - ((m).b3.toNat % 16)) - ((m).b4.toNat / 16))) (j := ((m).b4.toNat % 16)) rfl rfl (by (try simp only [List.length_take, List.length_drop, List.length_append, List.length_cons, List.length_nil, List.length_replicate, List.length_set, Nm.b_len, be2_len]); omega) (by (try simp only [List.length_take, List.length_drop, List.length_append, List.length_cons, List.length_nil, List.length_replicate, List.length_set, Nm.b_len, be2_len]); omega)) ?_
  refine Q_v (fun w hw => R_assign rfl) ?_
  refine Q_nil (fun w23_99 e23_99 => ?_)
  replace hE := hE.trans e23_99
  replace hB1_0 := hB1_0.ext e23_99
  replace o22_12 := o22_12.ext e23_99
  refine T_bn ?_
  refine T_tn ?_
  refine W_region ?_
  refine L (D_v (R_move rfl) ?_)
  refine L (D_v (R_cast (v' := .int .i64 (5)) (R_addI rfl rfl) rfl) ?_)
  refine L (D_v (R_assign rfl) ?_)
  refine S_nil ?_
  refine T_tn ?_
  refine W_round ?_
  refine wp_seq ?_
  refine wp_seq ?_
  refine W_region ?_
  refine L (D_v (R_move rfl) ?_)
  refine L (D_v (R_cast (v' := .bool true) (R_lssI rfl rfl) rfl) ?_)
  refine S_nil ?_
  refine T_tn ?_
  refine W_ift rfl ?_
  refine wp_skip ?_
  refine T_tn ?_
  refine wp_seq ?_
  refine wp_block ?_
  refine wp_seq ?_
  refine W_held (fun W => Ext w W ∧ Blk W aB1_0 (m).l 24 ∧ True) mixed (fun w26_99 e26_99 => ?_)
  replace hE := hE.trans e26_99
  replace hB1_0 := hB1_0.ext e26_99
  replace o22_12 := o22_12.ext e26_99
  refine H_take (i := 0) rfl (by kernel_rfl) (by kernel_rfl) (by kernel_rfl) rfl (pq_then (pq_block (pq_then (pq_then (pq_block (pq_then pq_body)))))) ⟨hE, hB1_0, trivial⟩ rfl (fun w hw => R_move rfl) ?_
  refine H_take (i := 1) rfl (by kernel_rfl) (by kernel_rfl) (by kernel_rfl) rfl (pq_then (pq_block (pq_then (pq_then (pq_block (pq_then pq_body)))))) ⟨hE, hB1_0, trivial⟩ rfl (fun w hw => R_move rfl) ?_
  refine H_take (i := 2) rfl (by kernel_rfl) (by kernel_rfl) (by kernel_rfl) rfl (pq_then (pq_block (pq_then (pq_then (pq_block (pq_then pq_body)))))) ⟨hE, hB1_0, trivial⟩ rfl (fun w hw => R_indexAddrA Try.runUnderlying24 Try.sizeOf5 rfl rfl (by decide) (by decide)) ?_
  refine H_take (i := 3) rfl (by kernel_rfl) (by kernel_rfl) (by kernel_rfl) rfl (pq_then (pq_block (pq_then (pq_then (pq_block (pq_then pq_body)))))) ⟨hE, hB1_0, trivial⟩ rfl (fun w hw => R_load Try.isAgg5 hw.2.1 rfl rfl) ?_
  refine H_take (i := 4) rfl (by kernel_rfl) (by kernel_rfl) (by kernel_rfl) rfl (pq_then (pq_block (pq_then (pq_then (pq_block (pq_then pq_body)))))) ⟨hE, hB1_0, trivial⟩ rfl (fun w hw => R_shrB rfl rfl) ?_
  refine H_take (i := 5) rfl (by kernel_rfl) (by kernel_rfl) (by kernel_rfl) rfl (pq_then (pq_block (pq_then (pq_then (pq_block (pq_then pq_body)))))) ⟨hE, hB1_0, trivial⟩ rfl (fun w hw => R_convN (e := ((m).b5.toNat / 16)) Try.runUnderlying5 Try.runUnderlying3 rfl (by (try simp only [List.length_take, List.length_drop, List.length_append, List.length_cons, List.length_nil, List.length_replicate, List.length_set, Nm.b_len, be2_len]); omega)) ?_
  refine H_take (i := 6) rfl (by kernel_rfl) (by kernel_rfl) (by kernel_rfl) rfl (pq_then (pq_block (pq_then (pq_then (pq_block (pq_then pq_body)))))) ⟨hE, hB1_0, trivial⟩ rfl (fun w hw => R_move rfl) ?_
  refine H_take (i := 7) rfl (by kernel_rfl) (by kernel_rfl) (by kernel_rfl) rfl (pq_then (pq_block (pq_then (pq_then (pq_block (pq_then pq_body)))))) ⟨hE, hB1_0, trivial⟩ rfl (fun w hw => R_indexAddrA Try.runUnderlying24 Try.sizeOf5 rfl rfl (by decide) (by decide)) ?_
  refine H_take (i := 8) rfl (by kernel_rfl) (by kernel_rfl) (by kernel_rfl) rfl (pq_then (pq_block (pq_then (pq_then (pq_block (pq_then pq_body)))))) ⟨hE, hB1_0, trivial⟩ rfl (fun w hw => R_load Try.isAgg5 hw.2.1 rfl rfl) ?_
  refine H_take (i := 9) rfl (by kernel_rfl) (by kernel_rfl) (by kernel_rfl) rfl (pq_then (pq_block (pq_then (pq_then (pq_block (pq_then pq_body)))))) ⟨hE, hB1_0, trivial⟩ rfl (fun w hw => R_andB rfl rfl) ?_
  refine H_take (i := 10) rfl (by kernel_rfl) (by kernel_rfl) (by kernel_rfl) rfl (pq_then (pq_block (pq_then (pq_then (pq_block (pq_then pq_body)))))) ⟨hE, hB1_0, trivial⟩ rfl (fun w hw => R_convN (e := ((m).b5.toNat % 16)) Try.runUnderlying5 Try.runUnderlying3 rfl (by (try simp only [List.length_take, List.length_drop, List.length_append, List.length_cons, List.length_nil, List.length_replicate, List.length_set, Nm.b_len, be2_len]); omega)) ?_
  refine H_op (i := 11) (by kernel_rfl) rfl rfl (D_buildI2 (lo := w.heap.size) (a := ((m).b5.toNat / 16)) (b := ((m).b5.toNat % 16)) Try.underlying161 Try.sizeOf3 Try.zeroValue3 (mapp2 rfl rfl) (fun v26_11 w26_11 o26_11 e26_11 => ?_))
  have zv22_12_v26_11 := own_apart o22_12.1 o26_11.1
  have zv26_11_v22_12 := fun k hk hk2 => zv22_12_v26_11 k hk2 hk
  replace o26_11 := o26_11.low hE.size
  replace hE := hE.trans e26_11
  replace hB1_0 := hB1_0.ext e26_11
  replace o22_12 := o22_12.ext e26_11
  refine ⟨⟨hE, hB1_0, trivial⟩, ?_⟩
  refine H_op (i := 12) (by kernel_rfl) rfl rfl (D_appendL elt3 Try.underlying161 rfl rfl o22_12 (Nat.le_refl _) o26_11.ls (by (try simp only [List.length_take, List.length_drop, List.length_append, List.length_cons, List.length_nil, List.length_replicate, List.length_set, Nm.b_len, be2_len]); omega) (by (try simp only [List.length_take, List.length_drop, List.length_append, List.length_cons, List.length_nil, List.length_replicate, List.length_set, Nm.b_len, be2_len]); omega) hE.size (fun v26_12 w26_12 o26_12 g26_12 f26_12 sv26_12 => ?_))
  have zv26_11_v26_12 : ∀ k, Value.ownBlock v26_11 = some k → Value.ownBlock v26_12 ≠ some k := fun k hk2 hk => (sv26_12 _ hk).elim (fun h => zv26_11_v22_12 k hk2 h) (fun h => absurd h (Nat.not_le.2 (own_lt o26_11.1 hk2)))
  have zv26_12_v26_11 := fun k hk hk2 => zv26_11_v26_12 k hk2 hk
  replace hE := hE.grown g26_12 (fun k hk => own_ge o22_12.1 hk)
  replace hB1_0 := hB1_0.grown g26_12 (own_neB o22_12.1 hB1_0 rfl)
  replace o26_11 := o26_11.grown g26_12 (zv26_11_v22_12) f26_12
  refine ⟨⟨hE, hB1_0, trivial⟩, ?_⟩
  refine H_take (i := 13) rfl (by kernel_rfl) (by kernel_rfl) (by kernel_rfl) rfl (pq_then (pq_block (pq_then (pq_then (pq_block (pq_then pq_body)))))) ⟨hE, hB1_0, trivial⟩ rfl (fun w hw => R_assign rfl) ?_
  refine H_done (by kernel_rfl) ?_
  refine T_tn ?_
  refine W_draw mixed (by kernel_rfl) ?_
  refine Q_v (fun w hw => R_move rfl) ?_
  refine Q_v (fun w hw => R_move rfl) ?_
  refine Q_v (fun w hw => R_indexAddrA Try.runUnderlying24 Try.sizeOf5 rfl rfl (by decide) (by decide)) ?_
  refine Q_v (fun w hw => R_load Try.isAgg5 (hB1_0.ext hw) rfl rfl) ?_
  refine Q_v (fun w hw => R_shrB rfl rfl) ?_
  refine Q_v (fun w hw => R_convN (e := ((m).b5.toNat / 16)) Try.runUnderlying5 Try.runUnderlying3 rfl (by (try simp only [List.length_take, List.length_drop, List.length_append, List.length_cons, List.length_nil, List.length_replicate, List.length_set, Nm.b_len, be2_len]); omega)) ?_
  refine Q_v (fun w hw => R_subN (m := ((((((((((240 - ((m).b0.toNat / 16)) - ((m).b0.toNat % 16)) - ((m).b1.toNat / 16)) - ((m).b1.toNat % 16)) - ((m).b2.toNat / 16)) - ((m).b2.toNat % 16)) - ((m).b3.toNat / 16)) - ((m).b3.toNat % 16)) - ((m).b4.toNat / 16)) - ((m).b4.toNat % 16))) (j := ((m).b5.toNat / 16)) rfl rfl (by (try simp only [List.length_take, List.length_drop, List.length_append, List.length_cons, List.length_nil, List.length_replicate, List.length_set, Nm.b_len, be2_len]); omega) (by (try simp only [List.length_take, List.length_drop, List.length_append, List.length_cons, List.length_nil, List.length_replicate, List.length_set, Nm.b_len, be2_len]); omega)) ?_
  refine Q_v (fun w hw => R_move rfl) ?_
  refine Q_v (fun w hw => R_indexAddrA Try.runUnderlying24 Try.sizeOf5 rfl rfl (by decide) (by decide)) ?_
  refine Q_v (fun w hw => R_load Try.isAgg5 (hB1_0.ext hw) rfl rfl) ?_
  refine Q_v (fun w hw => R_andB rfl rfl) ?_
  refine Q_v (fun w hw => R_convN (e := ((m).b5.toNat % 16)) Try.runUnderlying5 Try.runUnderlying3 rfl (by (try simp only [List.length_take, List.length_drop, List.length_append, List.length_cons, List.length_nil, List.length_replicate, List.length_set, Nm.b_len, be2_len]); omega)) ?_
  refine Q_v (fun w hw => R_subN (m := (((((((((((240 - ((m).b0.toNat / 16)) - ((m).b0.toNat % 16)) - ((m).b1.toNat / 16)) - ((m).b1.toNat % 16)) - ((m).b2.toNat / 16)) - ((m).b2.toNat % 16)) - ((m).b3.toNat / 16)) - ((m).b3.toNat % 16)) - ((m).b4.toNat / 16)) - ((m).b4.toNat % 16)) - ((m).b5.toNat / 16))) (j := ((m).b5.toNat % 16)) rfl rfl (by (try simp only [List.length_take, List.length_drop, List.length_append, List.length_cons, List.length_nil, List.length_replicate, List.length_set, Nm.b_len, be2_len]); omega) (by (try simp only [List.length_take, List.length_drop, List.length_append, List.length_cons, List.length_nil, List.length_replicate, List.length_set, Nm.b_len, be2_len]); omega)) ?_
  refine Q_v (fun w hw => R_assign rfl) ?_
  refine Q_nil (fun w27_99 e27_99 => ?_)
  replace hE := hE.trans e27_99
  replace hB1_0 := hB1_0.ext e27_99
  replace o26_12 := o26_12.ext e27_99
  refine T_bn ?_
  refine T_tn ?_
  refine W_region ?_
  refine L (D_v (R_move rfl) ?_)
  refine L (D_v (R_cast (v' := .int .i64 (6)) (R_addI rfl rfl) rfl) ?_)
  refine L (D_v (R_assign rfl) ?_)
  refine S_nil ?_
  refine T_tn ?_
  refine W_round ?_
  refine wp_seq ?_
  refine wp_seq ?_
  refine W_region ?_
  refine L (D_v (R_move rfl) ?_)
  refine L (D_v (R_cast (v' := .bool true) (R_lssI rfl rfl) rfl) ?_)
  refine S_nil ?_
  refine T_tn ?_
  refine W_ift rfl ?_
  refine wp_skip ?_
  refine T_tn ?_
  refine wp_seq ?_
  refine wp_block ?_
  refine wp_seq ?_
  refine W_held (fun W => Ext w W ∧ Blk W aB1_0 (m).l 24 ∧ True) mixed (fun w30_99 e30_99 => ?_)
  replace hE := hE.trans e30_99
  replace hB1_0 := hB1_0.ext e30_99
  replace o26_12 := o26_12.ext e30_99
  refine H_take (i := 0) rfl (by kernel_rfl) (by kernel_rfl) (by kernel_rfl) rfl (pq_then (pq_block (pq_then (pq_then (pq_block (pq_then pq_body)))))) ⟨hE, hB1_0, trivial⟩ rfl (fun w hw => R_move rfl) ?_
  refine H_take (i := 1) rfl (by kernel_rfl) (by kernel_rfl) (by kernel_rfl) rfl (pq_then (pq_block (pq_then (pq_then (pq_block (pq_then pq_body)))))) ⟨hE, hB1_0, trivial⟩ rfl (fun w hw => R_move rfl) ?_
  refine H_take (i := 2) rfl (by kernel_rfl) (by kernel_rfl) (by kernel_rfl) rfl (pq_then (pq_block (pq_then (pq_then (pq_block (pq_then pq_body)))))) ⟨hE, hB1_0, trivial⟩ rfl (fun w hw => R_indexAddrA Try.runUnderlying24 Try.sizeOf5 rfl rfl (by decide) (by decide)) ?_
  refine H_take (i := 3) rfl (by kernel_rfl) (by kernel_rfl) (by kernel_rfl) rfl (pq_then (pq_block (pq_then (pq_then (pq_block (pq_then pq_body)))))) ⟨hE, hB1_0, trivial⟩ rfl (fun w hw => R_load Try.isAgg5 hw.2.1 rfl rfl) ?_
  refine H_take (i := 4) rfl (by kernel_rfl) (by kernel_rfl) (by kernel_rfl) rfl (pq_then (pq_block (pq_then (pq_then (pq_block (pq_then pq_body)))))) ⟨hE, hB1_0, trivial⟩ rfl (fun w hw => R_shrB rfl rfl) ?_
  refine H_take (i := 5) rfl (by kernel_rfl) (by kernel_rfl) (by kernel_rfl) rfl (pq_then (pq_block (pq_then (pq_then (pq_block (pq_then pq_body)))))) ⟨hE, hB1_0, trivial⟩ rfl (fun w hw => R_convN (e := ((m).b6.toNat / 16)) Try.runUnderlying5 Try.runUnderlying3 rfl (by (try simp only [List.length_take, List.length_drop, List.length_append, List.length_cons, List.length_nil, List.length_replicate, List.length_set, Nm.b_len, be2_len]); omega)) ?_
  refine H_take (i := 6) rfl (by kernel_rfl) (by kernel_rfl) (by kernel_rfl) rfl (pq_then (pq_block (pq_then (pq_then (pq_block (pq_then pq_body)))))) ⟨hE, hB1_0, trivial⟩ rfl (fun w hw => R_move rfl) ?_
  refine H_take (i := 7) rfl (by kernel_rfl) (by kernel_rfl) (by kernel_rfl) rfl (pq_then (pq_block (pq_then (pq_then (pq_block (pq_then pq_body)))))) ⟨hE, hB1_0, trivial⟩ rfl (fun w hw => R_indexAddrA Try.runUnderlying24 Try.sizeOf5 rfl rfl (by decide) (by decide)) ?_
  refine H_take (i := 8) rfl (by kernel_rfl) (by kernel_rfl) (by kernel_rfl) rfl (pq_then (pq_block (pq_then (pq_then (pq_block (pq_then pq_body)))))) ⟨hE, hB1_0, trivial⟩ rfl (fun w hw => R_load Try.isAgg5 hw.2.1 rfl rfl) ?_
  refine H_take (i := 9) rfl (by kernel_rfl) (by kernel_rfl) (by kernel_rfl) rfl (pq_then (pq_block (pq_then (pq_then (pq_block (pq_then pq_body)))))) ⟨hE, hB1_0, trivial⟩ rfl (fun w hw => R_andB rfl rfl) ?_
  refine H_take (i := 10) rfl (by kernel_rfl) (by kernel_rfl) (by kernel_rfl) rfl (pq_then (pq_block (pq_then (pq_then (pq_block (pq_then pq_body)))))) ⟨hE, hB1_0, trivial⟩ rfl (fun w hw => R_convN (e := ((m).b6.toNat % 16)) Try.runUnderlying5 Try.runUnderlying3 rfl (by (try simp only [List.length_take, List.length_drop, List.length_append, List.length_cons, List.length_nil, List.length_replicate, List.length_set, Nm.b_len, be2_len]); omega)) ?_
  refine H_op (i := 11) (by kernel_rfl) rfl rfl (D_buildI2 (lo := w.heap.size) (a := ((m).b6.toNat / 16)) (b := ((m).b6.toNat % 16)) Try.underlying161 Try.sizeOf3 Try.zeroValue3 (mapp2 rfl rfl) (fun v30_11 w30_11 o30_11 e30_11 => ?_))
  have zv26_12_v30_11 := own_apart o26_12.1 o30_11.1
  have zv30_11_v26_12 := fun k hk hk2 => zv26_12_v30_11 k hk2 hk
  replace o30_11 := o30_11.low hE.size
  replace hE := hE.trans e30_11
  replace hB1_0 := hB1_0.ext e30_11
  replace o26_12 := o26_12.ext e30_11
  refine ⟨⟨hE, hB1_0, trivial⟩, ?_⟩
  refine H_op (i := 12) (by kernel_rfl) rfl rfl (D_appendL elt3 Try.underlying161 rfl rfl o26_12 (Nat.le_refl _) o30_11.ls (by (try simp only [List.length_take, List.length_drop, List.length_append, List.length_cons, List.length_nil, List.length_replicate, List.length_set, Nm.b_len, be2_len]); omega) (by (try simp only [List.length_take, List.length_drop, List.length_append, List.length_cons, List.length_nil, List.length_replicate, List.length_set, Nm.b_len, be2_len]); omega) hE.size (fun v30_12 w30_12 o30_12 g30_12 f30_12 sv30_12 => ?_))
  have zv30_11_v30_12 : ∀ k, Value.ownBlock v30_11 = some k → Value.ownBlock v30_12 ≠ some k := fun k hk2 hk => (sv30_12 _ hk).elim (fun h => zv30_11_v26_12 k hk2 h) (fun h => absurd h (Nat.not_le.2 (own_lt o30_11.1 hk2)))
  have zv30_12_v30_11 := fun k hk hk2 => zv30_11_v30_12 k hk2 hk
  replace hE := hE.grown g30_12 (fun k hk => own_ge o26_12.1 hk)
  replace hB1_0 := hB1_0.grown g30_12 (own_neB o26_12.1 hB1_0 rfl)
  replace o30_11 := o30_11.grown g30_12 (zv30_11_v26_12) f30_12
  refine ⟨⟨hE, hB1_0, trivial⟩, ?_⟩
  refine H_take (i := 13) rfl (by kernel_rfl) (by kernel_rfl) (by kernel_rfl) rfl (pq_then (pq_block (pq_then (pq_then (pq_block (pq_then pq_body)))))) ⟨hE, hB1_0, trivial⟩ rfl (fun w hw => R_assign rfl) ?_
  refine H_done (by kernel_rfl) ?_
  refine T_tn ?_
  refine W_draw mixed (by kernel_rfl) ?_
  refine Q_v (fun w hw => R_move rfl) ?_
  refine Q_v (fun w hw => R_move rfl) ?_
  refine Q_v (fun w hw => R_indexAddrA Try.runUnderlying24 Try.sizeOf5 rfl rfl (by decide) (by decide)) ?_
  refine Q_v (fun w hw => R_load Try.isAgg5 (hB1_0.ext hw) rfl rfl) ?_
  refine Q_v (fun w hw => R_shrB rfl rfl) ?_
  refine Q_v (fun w hw => R_convN (e := ((m).b6.toNat / 16)) Try.runUnderlying5 Try.runUnderlying3 rfl (by (try simp only [List.length_take, List.length_drop, List.length_append, List.length_cons, List.length_nil, List.length_replicate, List.length_set, Nm.b_len, be2_len]); omega)) ?_
  refine Q_v (fun w hw => R_subN (m := ((((((((((((240 - ((m).b0.toNat / 16)) - ((m).b0.toNat % 16)) - ((m).b1.toNat / 16)) - ((m).b1.toNat % 16)) - ((m).b2.toNat / 16)) - ((m).b2.toNat % 16)) - ((m).b3.toNat / 16)) - ((m).b3.toNat % 16)) - ((m).b4.toNat / 16)) - ((m).b4.toNat % 16)) - ((m).b5.toNat / 16)) - ((m).b5.toNat % 16))) (j := ((m).b6.toNat / 16)) rfl rfl (by (try simp only [List.length_take, List.length_drop, List.length_append, List.length_cons, List.length_nil, List.length_replicate, List.length_set, Nm.b_len, be2_len]); omega) (by (try simp only [List.length_take, List.length_drop, List.length_append, List.length_cons, List.length_nil, List.length_replicate, List.length_set, Nm.b_len, be2_len]); omega)) ?_
  refine Q_v (fun w hw => R_move rfl) ?_
  refine Q_v (fun w hw => R_indexAddrA Try.runUnderlying24 Try.sizeOf5 rfl rfl (by decide) (by decide)) ?_
  refine Q_v (fun w hw => R_load Try.isAgg5 (hB1_0.ext hw) rfl rfl) ?_
  refine Q_v (fun w hw => R_andB rfl rfl) ?_
  refine Q_v (fun w hw => R_convN (e := ((m).b6.toNat % 16)) Try.runUnderlying5 Try.runUnderlying3 rfl (by (try simp only [List.length_take, List.length_drop, List.length_append, List.length_cons, List.length_nil, List.length_replicate, List.length_set, Nm.b_len, be2_len]); omega)) ?_
  refine Q_v (fun w hw => R_subN (m := (((((((((((((240 - ((m).b0.toNat / 16)) - ((m).b0.toNat % 16)) - ((m).b1.toNat / 16)) - ((m).b1.toNat % 16)) - ((m).b2.toNat / 16)) - ((m).b2.toNat % 16)) - ((m).b3.toNat / 16)) - ((m).b3.toNat % 16)) - ((m).b4.toNat / 16)) - ((m).b4.toNat % 16)) - ((m).b5.toNat / 16)) - ((m).b5.toNat % 16)) - ((m).b6.toNat / 16))) (j := ((m).b6.toNat % 16)) rfl rfl (by (try simp only [List.length_take, List.length_drop, List.length_append, List.length_cons, List.length_nil, List.length_replicate, List.length_set, Nm.b_len, be2_len]); omega) (by (try simp only [List.length_take, List.length_drop, List.length_append, List.length_cons, List.length_nil, List.length_replicate, List.length_set, Nm.b_len, be2_len]); omega)) ?_
  refine Q_v (fun w hw => R_assign rfl) ?_
  refine Q_nil (fun w31_99 e31_99 => ?_)
  replace hE := hE.trans e31_99
  replace hB1_0 := hB1_0.ext e31_99
  replace o30_12 := o30_12.ext e31_99
  refine T_bn ?_
  refine T_tn ?_
  refine W_region ?_
  refine L (D_v (R_move rfl) ?_)
  refine L (D_v (R_cast (v' := .int .i64 (7)) (R_addI rfl rfl) rfl) ?_)
  refine L (D_v (R_assign rfl) ?_)
  refine S_nil ?_
  refine T_tn ?_
  refine W_round ?_
  refine wp_seq ?_
  refine wp_seq ?_
  refine W_region ?_
  refine L (D_v (R_move rfl) ?_)
  refine L (D_v (R_cast (v' := .bool true) (R_lssI rfl rfl) rfl) ?_)
  refine S_nil ?_
  refine T_tn ?_
  refine W_ift rfl ?_
  refine wp_skip ?_
  refine T_tn ?_
  refine wp_seq ?_
  refine wp_block ?_
  refine wp_seq ?_
  refine W_held (fun W => Ext w W ∧ Blk W aB1_0 (m).l 24 ∧ True) mixed (fun w34_99 e34_99 => ?_)
  replace hE := hE.trans e34_99
  replace hB1_0 := hB1_0.ext e34_99
  replace o30_12 := o30_12.ext e34_99
  refine H_take (i := 0) rfl (by kernel_rfl) (by kernel_rfl) (by kernel_rfl) rfl (pq_then (pq_block (pq_then (pq_then (pq_block (pq_then pq_body)))))) ⟨hE, hB1_0, trivial⟩ rfl (fun w hw => R_move rfl) ?_
  refine H_take (i := 1) rfl (by kernel_rfl) (by kernel_rfl) (by kernel_rfl) rfl (pq_then (pq_block (pq_then (pq_then (pq_block (pq_then pq_body)))))) ⟨hE, hB1_0, trivial⟩ rfl (fun w hw => R_move rfl) ?_
  refine H_take (i := 2) rfl (by kernel_rfl) (by kernel_rfl) (by kernel_rfl) rfl (pq_then (pq_block (pq_then (pq_then (pq_block (pq_then pq_body)))))) ⟨hE, hB1_0, trivial⟩ rfl (fun w hw => R_indexAddrA Try.runUnderlying24 Try.sizeOf5 rfl rfl (by decide) (by decide)) ?_
  refine H_take (i := 3) rfl (by kernel_rfl) (by kernel_rfl) (by kernel_rfl) rfl (pq_then (pq_block (pq_then (pq_then (pq_block (pq_then pq_body)))))) ⟨hE, hB1_0, trivial⟩ rfl (fun w hw => R_load Try.isAgg5 hw.2.1 rfl rfl) ?_
  refine H_take (i := 4) rfl (by kernel_rfl) (by kernel_rfl) (by kernel_rfl) rfl (pq_then (pq_block (pq_then (pq_then (pq_block (pq_then pq_body)))))) ⟨hE, hB1_0, trivial⟩ rfl (fun w hw => R_shrB rfl rfl) ?_
  refine H_take (i := 5) rfl (by kernel_rfl) (by kernel_rfl) (by kernel_rfl) rfl (pq_then (pq_block (pq_then (pq_then (pq_block (pq_then pq_body)))))) ⟨hE, hB1_0, trivial⟩ rfl (fun w hw => R_convN (e := ((m).b7.toNat / 16)) Try.runUnderlying5 Try.runUnderlying3 rfl (by (try simp only [List.length_take, List.length_drop, List.length_append, List.length_cons, List.length_nil, List.length_replicate, List.length_set, Nm.b_len, be2_len]); omega)) ?_
  refine H_take (i := 6) rfl (by kernel_rfl) (by kernel_rfl) (by kernel_rfl) rfl (pq_then (pq_block (pq_then (pq_then (pq_block (pq_then pq_body)))))) ⟨hE, hB1_0, trivial⟩ rfl (fun w hw => R_move rfl) ?_
  refine H_take (i := 7) rfl (by kernel_rfl) (by kernel_rfl) (by kernel_rfl) rfl (pq_then (pq_block (pq_then (pq_then (pq_block (pq_then pq_body)))))) ⟨hE, hB1_0, trivial⟩ rfl (fun w hw => R_indexAddrA Try.runUnderlying24 Try.sizeOf5 rfl rfl (by decide) (by decide)) ?_
  refine H_take (i := 8) rfl (by kernel_rfl) (by kernel_rfl) (by kernel_rfl) rfl (pq_then (pq_block (pq_then (pq_then (pq_block (pq_then pq_body)))))) ⟨hE, hB1_0, trivial⟩ rfl (fun w hw => R_load Try.isAgg5 hw.2.1 rfl rfl) ?_
  refine H_take (i := 9) rfl (by kernel_rfl) (by kernel_rfl) (by kernel_rfl) rfl (pq_then (pq_block (pq_then (pq_then (pq_block (pq_then pq_body)))))) ⟨hE, hB1_0, trivial⟩ rfl (fun w hw => R_andB rfl rfl) ?_
  refine H_take (i := 10) rfl (by kernel_rfl) (by kernel_rfl) (by kernel_rfl) rfl (pq_then (pq_block (pq_then (pq_then (pq_block (pq_then pq_body)))))) ⟨hE, hB1_0, trivial⟩ rfl (fun w hw => R_convN (e := ((m).b7.toNat % 16)) Try.runUnderlying5 Try.runUnderlying3 rfl (by (try simp only [List.length_take, List.length_drop, List.length_append, List.length_cons, List.length_nil, List.length_replicate, List.length_set, Nm.b_len, be2_len]); omega)) ?_
  refine H_op (i := 11) (by kernel_rfl) rfl rfl (D_buildI2 (lo := w.heap.size) (a := ((m).b7.toNat / 16)) (b := ((m).b7.toNat % 16)) Try.underlying161 Try.sizeOf3 Try.zeroValue3 (mapp2 rfl rfl) (fun v34_11 w34_11 o34_11 e34_11 => ?_))
  have zv30_12_v34_11 := own_apart o30_12.1 o34_11.1
  have zv34_11_v30_12 := fun k hk hk2 => zv30_12_v34_11 k hk2 hk
  replace o34_11 := o34_11.low hE.size
  replace hE := hE.trans e34_11
  replace hB1_0 := hB1_0.ext e34_11
  replace o30_12 := o30_12.ext e34_11
  refine ⟨⟨hE, hB1_0, trivial⟩, ?_⟩
  refine H_op (i := 12) (by kernel_rfl) rfl rfl (D_appendL elt3 Try.underlying161 rfl rfl o30_12 (Nat.le_refl _) o34_11.ls (by (try simp only [List.length_take, List.length_drop, List.length_append, List.length_cons, List.length_nil, List.length_replicate, List.length_set, Nm.b_len, be2_len]); omega) (by (try simp only [List.length_take, List.length_drop, List.length_append, List.length_cons, List.length_nil, List.length_replicate, List.length_set, Nm.b_len, be2_len]); omega) hE.size (fun v34_12 w34_12 o34_12 g34_12 f34_12 sv34_12 => ?_))
  have zv34_11_v34_12 : ∀ k, Value.ownBlock v34_11 = some k → Value.ownBlock v34_12 ≠ some k := fun k hk2 hk => (sv34_12 _ hk).elim (fun h => zv34_11_v30_12 k hk2 h) (fun h => absurd h (Nat.not_le.2 (own_lt o34_11.1 hk2)))
  have zv34_12_v34_11 := fun k hk hk2 => zv34_11_v34_12 k hk2 hk
  replace hE := hE.grown g34_12 (fun k hk => own_ge o30_12.1 hk)
  replace hB1_0 := hB1_0.grown g34_12 (own_neB o30_12.1 hB1_0 rfl)
  replace o34_11 := o34_11.grown g34_12 (zv34_11_v30_12) f34_12
  refine ⟨⟨hE, hB1_0, trivial⟩, ?_⟩
  refine H_take (i := 13) rfl (by kernel_rfl) (by kernel_rfl) (by kernel_rfl) rfl (pq_then (pq_block (pq_then (pq_then (pq_block (pq_then pq_body)))))) ⟨hE, hB1_0, trivial⟩ rfl (fun w hw => R_assign rfl) ?_
  refine H_done (by kernel_rfl) ?_
  refine T_tn ?_
  refine W_draw mixed (by kernel_rfl) ?_
  refine Q_v (fun w hw => R_move rfl) ?_
  refine Q_v (fun w hw => R_move rfl) ?_
  refine Q_v (fun w hw => R_indexAddrA Try.runUnderlying24 Try.sizeOf5 rfl rfl (by decide) (by decide)) ?_
  refine Q_v (fun w hw => R_load Try.isAgg5 (hB1_0.ext hw) rfl rfl) ?_
  refine Q_v (fun w hw => R_shrB rfl rfl) ?_
  refine Q_v (fun w hw => R_convN (e := ((m).b7.toNat / 16)) Try.runUnderlying5 Try.runUnderlying3 rfl (by (try simp only [List.length_take, List.length_drop, List.length_append, List.length_cons, List.length_nil, List.length_replicate, List.length_set, Nm.b_len, be2_len]); omega)) ?_
  refine Q_v (fun w hw => R_subN (m := ((((((((((((((240 - ((m).b0.toNat / 16)) - ((m).b0.toNat % 16)) - ((m).b1.toNat / 16)) - ((m).b1.toNat % 16)) - ((m).b2.toNat / 16)) - ((m).b2.toNat % 16)) - ((m).b3.toNat / 16)) - ((m).b3.toNat % 16)) - ((m).b4.toNat / 16)) - ((m).b4.toNat % 16)) - ((m).b5.toNat / 16)) - ((m).b5.toNat % 16)) - ((m).b6.toNat / 16)) - ((m).b6.toNat % 16))) (j := ((m).b7.toNat / 16)) rfl rfl (by (try simp only [List.length_take, List.length_drop, List.length_append, List.length_cons, List.length_nil, List.length_replicate, List.length_set, Nm.b_len, be2_len]); omega) (by (try simp only [List.length_take, List.length_drop, List.length_append, List.length_cons, List.length_nil, List.length_replicate, List.length_set, Nm.b_len, be2_len]); omega)) ?_
  refine Q_v (fun w hw => R_move rfl) ?_
  refine Q_v (fun w hw => R_indexAddrA Try.runUnderlying24 Try.sizeOf5 rfl rfl (by decide) (by decide)) ?_
  refine Q_v (fun w hw => R_load Try.isAgg5 (hB1_0.ext hw) rfl rfl) ?_
  refine Q_v (fun w hw => R_andB rfl rfl) ?_
  refine Q_v (fun w hw => R_convN (e := ((m).b7.toNat % 16)) Try.runUnderlying5 Try.runUnderlying3 rfl (by (try simp only [List.length_take, List.length_drop, List.length_append, List.length_cons, List.length_nil, List.length_replicate, List.length_set, Nm.b_len, be2_len]); omega)) ?_
  refine Q_v (fun w hw => R_subN (m := (((((((((((((((240 - ((m).b0.toNat / 16)) - ((m).b0.toNat % 16)) - ((m).b1.toNat / 16)) - ((m).b1.toNat % 16)) - ((m).b2.toNat / 16)) - ((m).b2.toNat % 16)) - ((m).b3.toNat / 16)) - ((m).b3.toNat % 16)) - ((m).b4.toNat / 16)) - ((m).b4.toNat % 16)) - ((m).b5.toNat / 16)) - ((m).b5.toNat % 16)) - ((m).b6.toNat / 16)) - ((m).b6.toNat % 16)) - ((m).b7.toNat / 16))) (j := ((m).b7.toNat % 16)) rfl rfl (by (try simp only [List.length_take, List.length_drop, List.length_append, List.length_cons, List.length_nil, List.length_replicate, List.length_set, Nm.b_len, be2_len]); omega) (by (try simp only [List.length_take, List.length_drop, List.length_append, List.length_cons, List.length_nil, List.length_replicate, List.length_set, Nm.b_len, be2_len]); omega)) ?_
  refine Q_v (fun w hw => R_assign rfl) ?_
  refine Q_nil (fun w35_99 e35_99 => ?_)
  replace hE := hE.trans e35_99
  replace hB1_0 := hB1_0.ext e35_99
  replace o34_12 := o34_12.ext e35_99
  refine T_bn ?_
  refine T_tn ?_
  refine W_region ?_
  refine L (D_v (R_move rfl) ?_)
  refine L (D_v (R_cast (v' := .int .i64 (8)) (R_addI rfl rfl) rfl) ?_)
  refine L (D_v (R_assign rfl) ?_)
  refine S_nil ?_
  refine T_tn ?_
  refine W_round ?_
  refine wp_seq ?_
  refine wp_seq ?_
  refine W_region ?_
  refine L (D_v (R_move rfl) ?_)
  refine L (D_v (R_cast (v' := .bool false) (R_lssI rfl rfl) rfl) ?_)
  refine S_nil ?_
  refine T_tn ?_
  refine W_iff rfl ?_
  refine wp_exit ?_
  refine T_te ?_
  refine T_te ?_
  refine T_be ?_
  refine T_tn ?_
  refine wp_seq ?_
  refine W_region ?_
  refine L (D_v (R_move rfl) ?_)
  refine L (D_v (R_move rfl) ?_)
  refine L (D_v (R_quoN (m := ((((((((((((((((240 - ((m).b0.toNat / 16)) - ((m).b0.toNat % 16)) - ((m).b1.toNat / 16)) - ((m).b1.toNat % 16)) - ((m).b2.toNat / 16)) - ((m).b2.toNat % 16)) - ((m).b3.toNat / 16)) - ((m).b3.toNat % 16)) - ((m).b4.toNat / 16)) - ((m).b4.toNat % 16)) - ((m).b5.toNat / 16)) - ((m).b5.toNat % 16)) - ((m).b6.toNat / 16)) - ((m).b6.toNat % 16)) - ((m).b7.toNat / 16)) - ((m).b7.toNat % 16))) (j := 16) rfl rfl (by decide) (by (try simp only [List.length_take, List.length_drop, List.length_append, List.length_cons, List.length_nil, List.length_replicate, List.length_set, Nm.b_len, be2_len]); omega)) ?_)
  refine L (D_v (R_move rfl) ?_)
  refine L (D_v (R_remN (m := ((((((((((((((((240 - ((m).b0.toNat / 16)) - ((m).b0.toNat % 16)) - ((m).b1.toNat / 16)) - ((m).b1.toNat % 16)) - ((m).b2.toNat / 16)) - ((m).b2.toNat % 16)) - ((m).b3.toNat / 16)) - ((m).b3.toNat % 16)) - ((m).b4.toNat / 16)) - ((m).b4.toNat % 16)) - ((m).b5.toNat / 16)) - ((m).b5.toNat % 16)) - ((m).b6.toNat / 16)) - ((m).b6.toNat % 16)) - ((m).b7.toNat / 16)) - ((m).b7.toNat % 16))) (j := 16) rfl rfl (by decide) (by (try simp only [List.length_take, List.length_drop, List.length_append, List.length_cons, List.length_nil, List.length_replicate, List.length_set, Nm.b_len, be2_len]); omega)) ?_)
  refine L (D_buildI2 (lo := w.heap.size) (a := (((((((((((((((((240 - ((m).b0.toNat / 16)) - ((m).b0.toNat % 16)) - ((m).b1.toNat / 16)) - ((m).b1.toNat % 16)) - ((m).b2.toNat / 16)) - ((m).b2.toNat % 16)) - ((m).b3.toNat / 16)) - ((m).b3.toNat % 16)) - ((m).b4.toNat / 16)) - ((m).b4.toNat % 16)) - ((m).b5.toNat / 16)) - ((m).b5.toNat % 16)) - ((m).b6.toNat / 16)) - ((m).b6.toNat % 16)) - ((m).b7.toNat / 16)) - ((m).b7.toNat % 16)) / 16)) (b := (((((((((((((((((240 - ((m).b0.toNat / 16)) - ((m).b0.toNat % 16)) - ((m).b1.toNat / 16)) - ((m).b1.toNat % 16)) - ((m).b2.toNat / 16)) - ((m).b2.toNat % 16)) - ((m).b3.toNat / 16)) - ((m).b3.toNat % 16)) - ((m).b4.toNat / 16)) - ((m).b4.toNat % 16)) - ((m).b5.toNat / 16)) - ((m).b5.toNat % 16)) - ((m).b6.toNat / 16)) - ((m).b6.toNat % 16)) - ((m).b7.toNat / 16)) - ((m).b7.toNat % 16)) % 16)) Try.underlying161 Try.sizeOf3 Try.zeroValue3 (mapp2 rfl rfl) (fun v38_5 w38_5 o38_5 e38_5 => ?_))
  have zv34_12_v38_5 := own_apart o34_12.1 o38_5.1
  have zv38_5_v34_12 := fun k hk hk2 => zv34_12_v38_5 k hk2 hk
  replace o38_5 := o38_5.low hE.size
  replace hE := hE.trans e38_5
  replace o34_12 := o34_12.ext e38_5
  refine L (D_appendL elt3 Try.underlying161 rfl rfl o34_12 (Nat.le_refl _) o38_5.ls (by (try simp only [List.length_take, List.length_drop, List.length_append, List.length_cons, List.length_nil, List.length_replicate, List.length_set, Nm.b_len, be2_len]); omega) (by (try simp only [List.length_take, List.length_drop, List.length_append, List.length_cons, List.length_nil, List.length_replicate, List.length_set, Nm.b_len, be2_len]); omega) hE.size (fun v38_6 w38_6 o38_6 g38_6 f38_6 sv38_6 => ?_))
  have zv38_5_v38_6 : ∀ k, Value.ownBlock v38_5 = some k → Value.ownBlock v38_6 ≠ some k := fun k hk2 hk => (sv38_6 _ hk).elim (fun h => zv38_5_v34_12 k hk2 h) (fun h => absurd h (Nat.not_le.2 (own_lt o38_5.1 hk2)))
  have zv38_6_v38_5 := fun k hk hk2 => zv38_5_v38_6 k hk2 hk
  replace hE := hE.grown g38_6 (fun k hk => own_ge o34_12.1 hk)
  replace o38_5 := o38_5.grown g38_6 (zv38_5_v34_12) f38_6
  refine L (D_v (R_assign rfl) ?_)
  refine S_nil ?_
  refine T_tn ?_
  refine wp_ret ?_
  refine ret1 (v := v38_6) rfl rfl ⟨_, rfl, hE, ?_⟩
  unfold digits drest; simp only [Nat.sub_add_eq]; first | exact o38_6 | (simp only [Nat.sub_add_eq] at o38_6; exact o38_6)
end Go.Proofs.Yteeopgpgbdhmhaa
namespace Go.Proofs.Yteeopgpgbdhmhaa
open Go.RowKit
set_option linter.unusedVariables false
set_option linter.unusedSimpArgs false
attribute [local irreducible] wpList wpO H wpQuiet wpStill Code.wp Exit.then Exit.inBlock bodyPost Code.rounds Calls valid lessV hless num between
set_option maxRecDepth 4000 in
set_option maxHeartbeats 1000000 in
theorem c179 (v : Nm) (c p q : Nat) (w : World) (hc : c ≤ 1000) (hp : p ≤ q) (hq : q ≤ 1000) : Calls Try.prog 179 [v.v, i64 ((c : Nat) : Int), i64 ((p : Nat) : Int), i64 ((q : Nat) : Int)].toArray w (Ret w (wk c (q - p) p v).v) := by
  refine enter Try.func179 Try.ntmps179 rfl rfl ?_
  have hE := Ext.refl w
  refine wp_seq ?_
  refine W_region ?_
  refine L (D_box (c := (v).l) (rfl) (fun aB1_0 w1_0 e1_0 gB1_0 hB1_0 => ?_))
  have lB1_0 := Nat.le_trans hE.size gB1_0
  replace hE := hE.trans e1_0
  refine L (D_alloc (c := (Nm.zero).l) Try.zeroValue24 rfl (fun aB1_1 w1_1 e1_1 gB1_1 hB1_1 => ?_))
  have lB1_1 := Nat.le_trans hE.size gB1_1
  have nB1_0B1_1 := hB1_0.ne gB1_1
  replace hE := hE.trans e1_1
  replace hB1_0 := hB1_0.ext e1_1
  refine S_nil ?_
  refine T_tn ?_
  refine wp_seq ?_
  refine wp_seq ?_
  refine W_region ?_
  refine L (D_v (R_move rfl) ?_)
  refine L (D_v (R_move rfl) ?_)
  refine L (D_v (R_subN (m := q) (j := p) rfl rfl (by (try simp only [List.length_take, List.length_drop, List.length_append, List.length_cons, List.length_nil, List.length_replicate, List.length_set, Nm.b_len, be2_len]); omega) (by (try simp only [List.length_take, List.length_drop, List.length_append, List.length_cons, List.length_nil, List.length_replicate, List.length_set, Nm.b_len, be2_len]); omega)) ?_)
  refine L (D_v (R_move rfl) ?_)
  refine S_nil ?_
  refine T_tn ?_
  refine wp_block ?_
  refine W_loop (fun mz g W => ∃ (V : Nm) (i : Nat), mz = q - p - i ∧ g 1 = i64 ((c : Nat) : Int) ∧ g 2 = i64 ((p : Nat) : Int) ∧ g 4 = .pointer (some ⟨aB1_0, 0, none⟩) ∧ g 8 = .pointer (some ⟨aB1_1, 0, none⟩) ∧ g 12 = i64 (((q - p) : Nat) : Int) ∧ g 13 = i64 ((i : Nat) : Int) ∧ Ext w W ∧ Blk W aB1_0 (V).l 24 ∧ Blk W aB1_1 (Nm.zero).l 24 ∧ i ≤ q - p ∧ wk c (q - p - i) (p + i) V = wk c (q - p) p v) ⟨v, 0, rfl, rfl, rfl, rfl, rfl, rfl, rfl, hE, hB1_0, hB1_1, (Nat.zero_le _), rfl⟩ ?_
  rintro mz f3 w3l ⟨V, i, hm, q1, q2, q4, q8, q12, q13, hE, hB1_0, hB1_1, hi, hw⟩
  refine wp_seq ?_
  refine W_region ?_
  refine L (D_v (R_lssI q13 q12) ?_)
  refine S_nil ?_
  refine T_tn ?_
  refine wp_seq ?_
  refine W_if rfl (fun c1 => ?_) (fun c1 => ?_)
  ·
    have lk : i < q - p := by simp at c1; omega
    refine wp_skip ?_
    refine T_tn ?_
    refine wp_seq ?_
    refine wp_block ?_
    refine wp_seq ?_
    refine W_region ?_
    refine L (D_v (R_move q13) ?_)
    refine L (D_v (R_assign rfl) ?_)
    refine S_nil ?_
    refine T_tn ?_
    refine W_region ?_
    refine L (D_v (R_sliceArr (len := 7) Try.underlying24 Try.sizeOf5 q4) ?_)
    refine L (D_v (R_move q1) ?_)
    refine L (D_v (R_convB Try.runUnderlying3 rfl) ?_)
    refine L (D_v (R_move q2) ?_)
    refine L (D_v (R_move rfl) ?_)
    refine L (D_v (R_addN (m := p) (j := i) rfl rfl (by (try simp only [List.length_take, List.length_drop, List.length_append, List.length_cons, List.length_nil, List.length_replicate, List.length_set, Nm.b_len, be2_len]); omega)) ?_)
    refine L (D_v (R_convB Try.runUnderlying3 rfl) ?_)
    refine L (D_buildB (vs := [(0, u8 (by8 (((c : Nat) : Int)))), (1, u8 (by8 ((((p + i) : Nat) : Int))))]) (b := [(by8 (((c : Nat) : Int))), (by8 ((((p + i) : Nat) : Int)))]) Try.underlying31 Try.sizeOf5 Try.zeroValue5 rfl (fillB2 _ _) rfl rfl rfl (fun v6_7 w6_7 o6_7 e6_7 => ?_))
    replace o6_7 := o6_7.lo hE.size
    replace hE := hE.trans e6_7
    replace hB1_0 := hB1_0.ext e6_7
    replace hB1_1 := hB1_1.ext e6_7
    refine L (D_appendFullB (k := 8) elt5 Try.underlying31 rfl rfl (hB1_0.bs 0 (V).b rfl rfl rfl) rfl rfl o6_7.bs (Nat.le_of_ble_eq_true rfl) (by (try simp only [List.length_take, List.length_drop, List.length_append, List.length_cons, List.length_nil, List.length_replicate, List.length_set, Nm.b_len, be2_len]); omega) (fun v6_8 w6_8 o6_8 e6_8 => ?_))
    have zv6_7_v6_8 := own_apart o6_7 o6_8
    have zv6_8_v6_7 := fun k hk hk2 => zv6_7_v6_8 k hk2 hk
    replace o6_8 := o6_8.lo hE.size
    replace hE := hE.trans e6_8
    replace hB1_0 := hB1_0.ext e6_8
    replace hB1_1 := hB1_1.ext e6_8
    replace o6_7 := o6_7.ext e6_8
    refine L (D_call (R_callF Try.call37 rfl rfl) (c37 (33) v6_8 (((V).b ++ [(by8 (((c : Nat) : Int))), (by8 ((((p + i) : Nat) : Int)))])) _ o6_8.bs (by (try simp only [List.length_take, List.length_drop, List.length_append, List.length_cons, List.length_nil, List.length_replicate, List.length_set, Nm.b_len, be2_len]); omega)) (fun w6_9 e6_9 => ?_))
    replace hE := hE.trans e6_9
    replace hB1_0 := hB1_0.ext e6_9
    replace hB1_1 := hB1_1.ext e6_9
    replace o6_7 := o6_7.ext e6_9
    replace o6_8 := o6_8.ext e6_9
    have xo6_7 := own_neB o6_7 hB1_0 rfl
    have xo6_8 := own_neB o6_8 hB1_0 rfl
    have h0 := hB1_0
    refine L (D_storeA Try.sizeOf24 hB1_0 q4 rfl rfl rfl rfl (l' := ((hashB (33 :: ((V).b ++ [(by8 (((c : Nat) : Int))), (by8 ((((p + i) : Nat) : Int)))])))).l) rfl (fun w6_10 k6_10 hB1_0 => ?_))
    replace hE := hE.kp k6_10 lB1_0
    replace hB1_1 := hB1_1.kp k6_10 nB1_0B1_1.symm
    replace o6_7 := o6_7.kp k6_10 xo6_7
    replace o6_8 := o6_8.kp k6_10 xo6_8
    refine S_nil ?_
    refine T_bn ?_
    refine T_tn ?_
    refine W_region ?_
    refine L (D_v (R_addN (m := i) (j := 1) q13 rfl (by (try simp only [List.length_take, List.length_drop, List.length_append, List.length_cons, List.length_nil, List.length_replicate, List.length_set, Nm.b_len, be2_len]); omega)) ?_)
    refine L (D_v (R_move rfl) ?_)
    refine S_nil ?_
    refine T_tn ?_
    refine ⟨_, _, ?_, rfl, _, i + 1, rfl, q1, q2, q4, q8, q12, rfl, hE, hB1_0, hB1_1, ?_, ?_⟩
    all_goals first | omega | exact wk_step hw lk
  ·
    have lk : ¬ i < q - p := by simp at c1; omega
    refine wp_exit ?_
    refine T_te ?_
    refine T_te ?_
    refine T_be ?_
    refine T_tn ?_
    refine wp_seq ?_
    refine W_region ?_
    refine L (D_v (R_loadA (c := (V).l) Try.isAgg24 Try.sizeOf24 hB1_0 q4 rfl rfl) ?_)
    have h0 := hB1_1
    refine L (D_storeA Try.sizeOf24 hB1_1 q8 rfl rfl rfl rfl (l' := (V).l) rfl (fun w5_1 k5_1 hB1_1 => ?_))
    replace hE := hE.kp k5_1 lB1_1
    replace hB1_0 := hB1_0.kp k5_1 nB1_0B1_1
    refine S_nil ?_
    refine T_tn ?_
    refine wp_ret ?_
    refine retc (c := (V).l) rfl q8 Try.isAgg24 Try.sizeOf24 hB1_1 rfl rfl ⟨?_, hE⟩
    obtain rfl : i = q - p := by omega
    rw [Nat.sub_self, wk_zero] at hw; rw [← hw]; rfl
set_option maxRecDepth 4000 in
set_option maxHeartbeats 1000000 in
theorem c144 (v : Nm) (c p q : Nat) (w : World) (hc : c ≤ 1000) (hp : p ≤ q) (hq : q ≤ 1000) : Calls Try.prog 144 [v.v, i64 ((c : Nat) : Int), i64 ((p : Nat) : Int), i64 ((q : Nat) : Int)].toArray w (Ret w (wk c (q - p) p v).v) := by
  refine enter Try.func144 Try.ntmps144 rfl rfl ?_
  have hE := Ext.refl w
  refine wp_seq ?_
  refine W_region ?_
  refine L (D_box (c := (v).l) (rfl) (fun aB1_0 w1_0 e1_0 gB1_0 hB1_0 => ?_))
  have lB1_0 := Nat.le_trans hE.size gB1_0
  replace hE := hE.trans e1_0
  refine L (D_alloc (c := (Nm.zero).l) Try.zeroValue24 rfl (fun aB1_1 w1_1 e1_1 gB1_1 hB1_1 => ?_))
  have lB1_1 := Nat.le_trans hE.size gB1_1
  have nB1_0B1_1 := hB1_0.ne gB1_1
  replace hE := hE.trans e1_1
  replace hB1_0 := hB1_0.ext e1_1
  refine S_nil ?_
  refine T_tn ?_
  refine wp_seq ?_
  refine wp_seq ?_
  refine W_region ?_
  refine L (D_v (R_move rfl) ?_)
  refine L (D_v (R_assign rfl) ?_)
  refine S_nil ?_
  refine T_tn ?_
  refine wp_block ?_
  refine W_loop (fun mz g W => ∃ (V : Nm) (i : Nat), mz = q - p - i ∧ g 1 = i64 ((c : Nat) : Int) ∧ g 3 = i64 ((q : Nat) : Int) ∧ g 4 = .pointer (some ⟨aB1_0, 0, none⟩) ∧ g 8 = .pointer (some ⟨aB1_1, 0, none⟩) ∧ g 9 = i64 ((p + i : Nat) : Int) ∧ Ext w W ∧ Blk W aB1_0 (V).l 24 ∧ Blk W aB1_1 (Nm.zero).l 24 ∧ i ≤ q - p ∧ wk c (q - p - i) (p + i) V = wk c (q - p) p v) ⟨v, 0, rfl, rfl, rfl, rfl, rfl, rfl, hE, hB1_0, hB1_1, (Nat.zero_le _), rfl⟩ ?_
  rintro mz f3 w3l ⟨V, i, hm, q1, q3, q4, q8, q9, hE, hB1_0, hB1_1, hi, hw⟩
  refine wp_seq ?_
  refine wp_seq ?_
  refine W_region ?_
  refine L (D_v (R_move q9) ?_)
  refine L (D_v (R_move q3) ?_)
  refine L (D_v (R_lssI rfl rfl) ?_)
  refine S_nil ?_
  refine T_tn ?_
  refine W_if rfl (fun c1 => ?_) (fun c1 => ?_)
  ·
    have lk : i < q - p := by simp at c1; omega
    refine wp_skip ?_
    refine T_tn ?_
    refine wp_seq ?_
    refine wp_block ?_
    refine W_region ?_
    refine L (D_v (R_indexAddrA Try.runUnderlying24 Try.sizeOf5 q4 rfl (by decide) (by decide)) ?_)
    refine L (D_v (R_load Try.isAgg5 hB1_0 rfl rfl) ?_)
    refine L (D_v (R_indexAddrA Try.runUnderlying24 Try.sizeOf5 q4 rfl (by decide) (by decide)) ?_)
    refine L (D_v (R_load Try.isAgg5 hB1_0 rfl rfl) ?_)
    refine L (D_v (R_indexAddrA Try.runUnderlying24 Try.sizeOf5 q4 rfl (by decide) (by decide)) ?_)
    refine L (D_v (R_load Try.isAgg5 hB1_0 rfl rfl) ?_)
    refine L (D_v (R_indexAddrA Try.runUnderlying24 Try.sizeOf5 q4 rfl (by decide) (by decide)) ?_)
    refine L (D_v (R_load Try.isAgg5 hB1_0 rfl rfl) ?_)
    refine L (D_v (R_indexAddrA Try.runUnderlying24 Try.sizeOf5 q4 rfl (by decide) (by decide)) ?_)
    refine L (D_v (R_load Try.isAgg5 hB1_0 rfl rfl) ?_)
    refine L (D_v (R_indexAddrA Try.runUnderlying24 Try.sizeOf5 q4 rfl (by decide) (by decide)) ?_)
    refine L (D_v (R_load Try.isAgg5 hB1_0 rfl rfl) ?_)
    refine L (D_v (R_indexAddrA Try.runUnderlying24 Try.sizeOf5 q4 rfl (by decide) (by decide)) ?_)
    refine L (D_v (R_load Try.isAgg5 hB1_0 rfl rfl) ?_)
    refine L (D_v (R_indexAddrA Try.runUnderlying24 Try.sizeOf5 q4 rfl (by decide) (by decide)) ?_)
    refine L (D_v (R_load Try.isAgg5 hB1_0 rfl rfl) ?_)
    refine L (D_v (R_move q1) ?_)
    refine L (D_v (R_convB Try.runUnderlying3 rfl) ?_)
    refine L (D_v (R_move q9) ?_)
    refine L (D_v (R_convB Try.runUnderlying3 rfl) ?_)
    refine L (D_buildB (vs := [(0, u8 (33)), (1, u8 (V).b0), (2, u8 (V).b1), (3, u8 (V).b2), (4, u8 (V).b3), (5, u8 (V).b4), (6, u8 (V).b5), (7, u8 (V).b6), (8, u8 (V).b7), (9, u8 (by8 (((c : Nat) : Int)))), (10, u8 (by8 ((((p + i) : Nat) : Int))))]) (b := [33, (V).b0, (V).b1, (V).b2, (V).b3, (V).b4, (V).b5, (V).b6, (V).b7, (by8 (((c : Nat) : Int))), (by8 ((((p + i) : Nat) : Int)))]) Try.underlying31 Try.sizeOf5 Try.zeroValue5 rfl (fillB11 _ _ _ _ _ _ _ _ _ _ _) rfl rfl rfl (fun v5_20 w5_20 o5_20 e5_20 => ?_))
    replace o5_20 := o5_20.lo hE.size
    replace hE := hE.trans e5_20
    replace hB1_0 := hB1_0.ext e5_20
    replace hB1_1 := hB1_1.ext e5_20
    refine L (D_call (R_callF Try.call114 rfl rfl) (c114 v5_20 ([33, (V).b0, (V).b1, (V).b2, (V).b3, (V).b4, (V).b5, (V).b6, (V).b7, (by8 (((c : Nat) : Int))), (by8 ((((p + i) : Nat) : Int)))]) _ o5_20.bs (by (try simp only [List.length_take, List.length_drop, List.length_append, List.length_cons, List.length_nil, Nm.b_len, be2_len]); omega)) (fun w5_21 e5_21 => ?_))
    replace hE := hE.trans e5_21
    replace hB1_0 := hB1_0.ext e5_21
    replace hB1_1 := hB1_1.ext e5_21
    replace o5_20 := o5_20.ext e5_21
    have xo5_20 := own_neB o5_20 hB1_0 rfl
    have h0 := hB1_0
    refine L (D_storeA Try.sizeOf24 hB1_0 q4 rfl rfl rfl rfl (l' := ((hashB [33, (V).b0, (V).b1, (V).b2, (V).b3, (V).b4, (V).b5, (V).b6, (V).b7, (by8 (((c : Nat) : Int))), (by8 ((((p + i) : Nat) : Int)))])).l) rfl (fun w5_22 k5_22 hB1_0 => ?_))
    replace hE := hE.kp k5_22 lB1_0
    replace hB1_1 := hB1_1.kp k5_22 nB1_0B1_1.symm
    replace o5_20 := o5_20.kp k5_22 xo5_20
    refine S_nil ?_
    refine T_bn ?_
    refine T_tn ?_
    refine W_region ?_
    refine L (D_v (R_move q9) ?_)
    refine L (D_v (R_addN (m := (p + i)) (j := 1) rfl rfl (by (try simp only [List.length_take, List.length_drop, List.length_append, List.length_cons, List.length_nil, List.length_replicate, List.length_set, Nm.b_len, be2_len]); omega)) ?_)
    refine L (D_v (R_assign rfl) ?_)
    refine S_nil ?_
    refine T_tn ?_
    refine ⟨_, _, ?_, rfl, _, i + 1, rfl, q1, q3, q4, q8, rfl, hE, hB1_0, hB1_1, ?_, ?_⟩
    all_goals first | omega | exact wk_step hw lk
  ·
    have lk : ¬ i < q - p := by simp at c1; omega
    refine wp_exit ?_
    refine T_te ?_
    refine T_te ?_
    refine T_be ?_
    refine T_tn ?_
    refine wp_seq ?_
    refine W_region ?_
    refine L (D_v (R_loadA (c := (V).l) Try.isAgg24 Try.sizeOf24 hB1_0 q4 rfl rfl) ?_)
    have h0 := hB1_1
    refine L (D_storeA Try.sizeOf24 hB1_1 q8 rfl rfl rfl rfl (l' := (V).l) rfl (fun w5_1 k5_1 hB1_1 => ?_))
    replace hE := hE.kp k5_1 lB1_1
    replace hB1_0 := hB1_0.kp k5_1 nB1_0B1_1
    refine S_nil ?_
    refine T_tn ?_
    refine wp_ret ?_
    refine retc (c := (V).l) rfl q8 Try.isAgg24 Try.sizeOf24 hB1_1 rfl rfl ⟨?_, hE⟩
    obtain rfl : i = q - p := by omega
    rw [Nat.sub_self, wk_zero] at hw; rw [← hw]; rfl
set_option maxRecDepth 4000 in
set_option maxHeartbeats 1000000 in
theorem c181 (v : Value) (es : List Nm) (w : World) (hl : es.length ≤ 1000) (h : Ls cN w.heap.size w v es) : Calls Try.prog 181 [v].toArray w (Ret w (pubE es).v) := by
  refine enter Try.func181 Try.ntmps181 rfl rfl ?_
  have hE := Ext.refl w
  refine wp_seq ?_
  refine W_region ?_
  refine L (D_alloc (c := (Nm.zero).l) Try.zeroValue24 rfl (fun aB1_0 w1_0 e1_0 gB1_0 hB1_0 => ?_))
  have lB1_0 := Nat.le_trans hE.size gB1_0
  replace hE := hE.trans e1_0
  refine S_nil ?_
  refine T_tn ?_
  refine wp_seq ?_
  refine W_region ?_
  refine L (D_make0 (c := 144) elt5 Try.underlying31 rfl rfl (by (try simp only [List.length_take, List.length_drop, List.length_append, List.length_cons, List.length_nil, List.length_replicate, List.length_set, Nm.b_len, be2_len]); omega) (fun v2_0 w2_0 o2_0 e2_0 => ?_))
  replace o2_0 := o2_0.lo hE.size
  replace hE := hE.trans e2_0
  replace hB1_0 := hB1_0.ext e2_0
  refine L (D_v (R_assign rfl) ?_)
  refine S_nil ?_
  refine T_tn ?_
  refine wp_seq ?_
  refine wp_seq ?_
  refine W_region ?_
  refine L (D_v (R_move rfl) ?_)
  refine L (D_v (R_len Try.underlying45 rfl (h.ext hE).1) ?_)
  refine L (D_v (R_move rfl) ?_)
  refine S_nil ?_
  refine T_tn ?_
  refine wp_block ?_
  refine W_loop (fun mz g W => ∃ (b : List UInt8) (i : Nat) (r3 : Value), mz = es.length - i ∧ g 2 = .pointer (some ⟨aB1_0, 0, none⟩) ∧ g 3 = r3 ∧ g 7 = v ∧ g 8 = i64 (((es).length : Nat) : Int) ∧ g 9 = i64 ((i : Nat) : Int) ∧ Ext w W ∧ Blk W aB1_0 (Nm.zero).l 24 ∧ OwnB W w.heap.size r3 b ∧ i ≤ es.length ∧ b = (es.take i).flatMap Nm.b) ⟨[], 0, _, rfl, rfl, rfl, rfl, rfl, rfl, hE, hB1_0, o2_0, (Nat.zero_le _), rfl⟩ ?_
  rintro mz f4 w4l ⟨b, i, r3, hm, q2, q3, q7, q8, q9, hE, hB1_0, or3, hi, hb⟩
  have hbl : b.length ≤ es.length * 8 := by rw [hb, flat_len, List.length_take]; omega
  refine wp_seq ?_
  refine W_region ?_
  refine L (D_v (R_lssI q9 q8) ?_)
  refine S_nil ?_
  refine T_tn ?_
  refine wp_seq ?_
  refine W_if rfl (fun c1 => ?_) (fun c1 => ?_)
  ·
    have lk : i < es.length := by simpa using c1
    refine wp_skip ?_
    refine T_tn ?_
    refine wp_seq ?_
    refine wp_block ?_
    refine wp_seq ?_
    refine W_region ?_
    refine L (D_v (R_elAddr (i := i) Try.underlying45 Try.sizeOf24 q7 q9 (h.ext hE).1 (by (try simp only [List.length_take, List.length_drop, List.length_append, List.length_cons, List.length_nil, List.length_replicate, List.length_set, Nm.b_len, be2_len]); omega)) ?_)
    refine L (D_v (R_ldL (C := cN) (i := i) (y := ((es).getD (i) Nm.zero)) Try.isAgg24 Try.sizeOf24 rfl (h.ext hE) (getD_some (d := Nm.zero) (by (try simp only [List.length_take, List.length_drop, List.length_append, List.length_cons, List.length_nil, List.length_replicate, List.length_set, Nm.b_len, be2_len]); omega))) ?_)
    refine L (D_alloc (c := (Nm.zero).l) Try.zeroValue24 rfl (fun aB6_2 w6_2 e6_2 gB6_2 hB6_2 => ?_))
    have lB6_2 := Nat.le_trans hE.size gB6_2
    have nB1_0B6_2 := hB1_0.ne gB6_2
    replace hE := hE.trans e6_2
    replace hB1_0 := hB1_0.ext e6_2
    replace or3 := or3.ext e6_2
    have xor3 := own_neB or3 hB6_2 rfl
    have h0 := hB6_2
    refine L (D_storeA Try.sizeOf24 hB6_2 rfl rfl rfl rfl rfl (l' := (((es).getD (i) Nm.zero)).l) rfl (fun w6_3 k6_3 hB6_2 => ?_))
    replace hE := hE.kp k6_3 lB6_2
    replace hB1_0 := hB1_0.kp k6_3 nB1_0B6_2
    replace or3 := or3.kp k6_3 xor3
    refine S_nil ?_
    refine T_tn ?_
    refine W_region ?_
    refine L (D_v (R_move q3) ?_)
    refine L (D_v (R_sliceArr (len := 7) Try.underlying24 Try.sizeOf5 rfl) ?_)
    refine L (D_appendB elt5 Try.underlying31 rfl rfl or3 (hB6_2.bs 0 (((es).getD (i) Nm.zero)).b rfl rfl rfl) (by (try simp only [List.length_take, List.length_drop, List.length_append, List.length_cons, List.length_nil, List.length_replicate, List.length_set, Nm.b_len, be2_len]); omega) hE.size (fun v7_2 w7_2 o7_2 g7_2 => ?_))
    replace hE := hE.grown g7_2 (fun k hk => own_ge or3 hk)
    replace hB1_0 := hB1_0.grown g7_2 (own_neB or3 hB1_0 rfl)
    replace hB6_2 := hB6_2.grown g7_2 (own_neB or3 hB6_2 rfl)
    refine L (D_v (R_assign rfl) ?_)
    refine S_nil ?_
    refine T_bn ?_
    refine T_tn ?_
    refine W_region ?_
    refine L (D_v (R_addN (m := i) (j := 1) q9 rfl (by (try simp only [List.length_take, List.length_drop, List.length_append, List.length_cons, List.length_nil, List.length_replicate, List.length_set, Nm.b_len, be2_len]); omega)) ?_)
    refine L (D_v (R_move rfl) ?_)
    refine S_nil ?_
    refine T_tn ?_
    refine ⟨_, _, ?_, rfl, _, i + 1, _, rfl, q2, rfl, q7, q8, rfl, hE, hB1_0, o7_2, ?_, ?_⟩
    all_goals first | omega | exact flat_next hb (getD_some lk)
  ·
    have lk : ¬ i < es.length := by simpa using c1
    refine wp_exit ?_
    refine T_te ?_
    refine T_te ?_
    refine T_be ?_
    refine T_tn ?_
    refine wp_seq ?_
    refine W_region ?_
    refine L (D_v (R_move q3) ?_)
    refine L (D_call (R_callF Try.call37 rfl rfl) (c37 (34) r3 (b) _ or3.bs (by (try simp only [List.length_take, List.length_drop, List.length_append, List.length_cons, List.length_nil, List.length_replicate, List.length_set, Nm.b_len, be2_len]); omega)) (fun w6_1 e6_1 => ?_))
    replace hE := hE.trans e6_1
    replace hB1_0 := hB1_0.ext e6_1
    replace or3 := or3.ext e6_1
    have xor3 := own_neB or3 hB1_0 rfl
    have h0 := hB1_0
    refine L (D_storeA Try.sizeOf24 hB1_0 q2 rfl rfl rfl rfl (l' := ((hashB (34 :: b))).l) rfl (fun w6_2 k6_2 hB1_0 => ?_))
    replace hE := hE.kp k6_2 lB1_0
    replace or3 := or3.kp k6_2 xor3
    refine S_nil ?_
    refine T_tn ?_
    refine wp_ret ?_
    refine retc (c := ((hashB (34 :: b))).l) rfl q2 Try.isAgg24 Try.sizeOf24 hB1_0 rfl rfl ⟨?_, hE⟩
    rw [List.take_of_length_le (by omega)] at hb; subst hb; rfl
set_option maxRecDepth 4000 in
set_option maxHeartbeats 1000000 in
theorem c174 (v : Value) (es : List Nm) (w : World) (hl : es.length ≤ 1000) (h : Ls cN w.heap.size w v es) : Calls Try.prog 174 [v].toArray w (Ret w (pubE es).v) := by
  refine enter Try.func174 Try.ntmps174 rfl rfl ?_
  have hE := Ext.refl w
  refine wp_seq ?_
  refine W_region ?_
  refine L (D_alloc (c := (Nm.zero).l) Try.zeroValue24 rfl (fun aB1_0 w1_0 e1_0 gB1_0 hB1_0 => ?_))
  have lB1_0 := Nat.le_trans hE.size gB1_0
  replace hE := hE.trans e1_0
  refine S_nil ?_
  refine T_tn ?_
  refine wp_seq ?_
  refine W_region ?_
  refine L (D_v (R_assign rfl) ?_)
  refine S_nil ?_
  refine T_tn ?_
  refine wp_seq ?_
  refine wp_seq ?_
  refine W_region ?_
  refine L (D_v (R_assign rfl) ?_)
  refine S_nil ?_
  refine T_tn ?_
  refine wp_block ?_
  refine W_loop (fun mz g W => ∃ (b : List UInt8) (i : Nat) (r3 : Value), mz = es.length - i ∧ g 0 = v ∧ g 2 = .pointer (some ⟨aB1_0, 0, none⟩) ∧ g 3 = r3 ∧ g 4 = i64 ((i : Nat) : Int) ∧ Ext w W ∧ Blk W aB1_0 (Nm.zero).l 24 ∧ OwnB W w.heap.size r3 b ∧ i ≤ es.length ∧ b = (es.take i).flatMap Nm.b) ⟨[], 0, _, rfl, rfl, rfl, rfl, rfl, hE, hB1_0, (OwnB.nil _ _), (Nat.zero_le _), rfl⟩ ?_
  rintro mz f4 w4l ⟨b, i, r3, hm, q0, q2, q3, q4, hE, hB1_0, or3, hi, hb⟩
  have hbl : b.length ≤ es.length * 8 := by rw [hb, flat_len, List.length_take]; omega
  refine wp_seq ?_
  refine wp_seq ?_
  refine W_region ?_
  refine L (D_v (R_move q4) ?_)
  refine L (D_v (R_move q0) ?_)
  refine L (D_v (R_len Try.underlying45 rfl (h.ext hE).1) ?_)
  refine L (D_v (R_lssI rfl rfl) ?_)
  refine S_nil ?_
  refine T_tn ?_
  refine W_if rfl (fun c1 => ?_) (fun c1 => ?_)
  ·
    have lk : i < es.length := by simpa using c1
    refine wp_skip ?_
    refine T_tn ?_
    refine wp_seq ?_
    refine wp_block ?_
    refine W_region ?_
    refine L (D_v (R_move q3) ?_)
    refine L (D_v (R_move q0) ?_)
    refine L (D_v (R_move q4) ?_)
    refine L (D_v (R_elAddr (i := i) Try.underlying45 Try.sizeOf24 rfl rfl (h.ext hE).1 (by (try simp only [List.length_take, List.length_drop, List.length_append, List.length_cons, List.length_nil, List.length_replicate, List.length_set, Nm.b_len, be2_len]); omega)) ?_)
    refine L (D_v (R_sliceEl (len := 7) (k := i * 8) Try.underlying24 Try.sizeOf5 (h.ext hE).1 (lel_lt (C := cN) (k := 0) (getD_some (d := Nm.zero) (by (try simp only [List.length_take, List.length_drop, List.length_append, List.length_cons, List.length_nil, List.length_replicate, List.length_set, Nm.b_len, be2_len]); omega)) (by decide)) rfl) ?_)
    refine L (D_appendB elt5 Try.underlying31 rfl rfl or3 ((h.ext hE).bs (getD_some (d := Nm.zero) (by (try simp only [List.length_take, List.length_drop, List.length_append, List.length_cons, List.length_nil, List.length_replicate, List.length_set, Nm.b_len, be2_len]); omega))) (by (try simp only [List.length_take, List.length_drop, List.length_append, List.length_cons, List.length_nil, List.length_replicate, List.length_set, Nm.b_len, be2_len]); omega) hE.size (fun v6_5 w6_5 o6_5 g6_5 => ?_))
    replace hE := hE.grown g6_5 (fun k hk => own_ge or3 hk)
    replace hB1_0 := hB1_0.grown g6_5 (own_neB or3 hB1_0 rfl)
    refine L (D_v (R_assign rfl) ?_)
    refine S_nil ?_
    refine T_bn ?_
    refine T_tn ?_
    refine W_region ?_
    refine L (D_v (R_move q4) ?_)
    refine L (D_v (R_addN (m := i) (j := 1) rfl rfl (by (try simp only [List.length_take, List.length_drop, List.length_append, List.length_cons, List.length_nil, List.length_replicate, List.length_set, Nm.b_len, be2_len]); omega)) ?_)
    refine L (D_v (R_assign rfl) ?_)
    refine S_nil ?_
    refine T_tn ?_
    refine ⟨_, _, ?_, rfl, _, i + 1, _, rfl, q0, q2, rfl, rfl, hE, hB1_0, o6_5, ?_, ?_⟩
    all_goals first | omega | exact flat_next hb (getD_some lk)
  ·
    have lk : ¬ i < es.length := by simpa using c1
    refine wp_exit ?_
    refine T_te ?_
    refine T_te ?_
    refine T_be ?_
    refine T_tn ?_
    refine wp_seq ?_
    refine W_region ?_
    refine L (D_v (R_move q3) ?_)
    refine L (D_call (R_callF Try.call88 rfl rfl) (c88 (34) r3 (b) _ or3.bs (by (try simp only [List.length_take, List.length_drop, List.length_append, List.length_cons, List.length_nil, List.length_replicate, List.length_set, Nm.b_len, be2_len]); omega)) (fun w6_1 e6_1 => ?_))
    replace hE := hE.trans e6_1
    replace hB1_0 := hB1_0.ext e6_1
    replace or3 := or3.ext e6_1
    have xor3 := own_neB or3 hB1_0 rfl
    have h0 := hB1_0
    refine L (D_storeA Try.sizeOf24 hB1_0 q2 rfl rfl rfl rfl (l' := ((hashB (34 :: b))).l) rfl (fun w6_2 k6_2 hB1_0 => ?_))
    replace hE := hE.kp k6_2 lB1_0
    replace or3 := or3.kp k6_2 xor3
    refine S_nil ?_
    refine T_tn ?_
    refine wp_ret ?_
    refine retc (c := ((hashB (34 :: b))).l) rfl q2 Try.isAgg24 Try.sizeOf24 hB1_0 rfl rfl ⟨?_, hE⟩
    rw [List.take_of_length_le (by omega)] at hb; subst hb; rfl
end Go.Proofs.Yteeopgpgbdhmhaa
namespace Go.Proofs.Yteeopgpgbdhmhaa
open Go.RowKit
set_option linter.unusedVariables false
set_option linter.unusedSimpArgs false
attribute [local irreducible] lessP ltB wpList wpO H wpQuiet wpStill Code.wp Exit.then Exit.inBlock bodyPost Code.rounds Calls valid lessV hless num between
set_option maxRecDepth 4000 in
set_option maxHeartbeats 2000000 in
theorem c95 {α : Type} {S : (Nat → α) → World → Prop} {gB n : Nat} {lf sf : Value} {lt : α → α → Bool} (hR : Srt Try.prog S gB n lf sf lt) (f : Nat → α) (p : Option Addr) (c : Nat) (w : World) (hG : S f w) (hsw : isSw (.slice p n c) sf) : Calls Try.prog 95 [.iface 46 (.slice p n c), lf].toArray w (RetS gB w fun w2 => ∃ f', S f' w2 ∧ Mv f f' 0 n ∧ srt lt f' 0 n) := by
  refine enter Try.func95 Try.ntmps95 rfl rfl ?_
  have hE := Chg.refl gB w
  have hnb := hR.nb
  have hlp := hR.lp
  have hsp := hR.sp
  have hX := Ext.refl w
  have hG0 := hG
  refine wp_seq ?_
  refine W_region ?_
  refine L (D_v (R_move rfl) ?_)
  refine L (D_valueOf rfl (fun aBV w1_1 e1_1 gBV hBV => ?_))
  have lBV := Nat.le_trans hE.size gBV
  have nGBV := Nat.ne_of_lt (Nat.lt_of_lt_of_le (hR.bound _ _ hG) gBV)
  replace hE := hE.trans e1_1
  replace hX := hX.trans e1_1
  replace hG := hR.ext _ _ _ hG e1_1
  refine L (D_alloc Try.zeroValue139 rfl (fun aB1_2 w1_2 e1_2 gB1_2 hB1_2 => ?_))
  have lB1_2 := Nat.le_trans hE.size gB1_2
  have nGB1_2 := Nat.ne_of_lt (Nat.lt_of_lt_of_le (hR.bound _ _ hG) gB1_2)
  have nBVB1_2 := hBV.ne gB1_2
  replace hE := hE.trans e1_2
  replace hX := hX.trans e1_2
  replace hG := hR.ext _ _ _ hG e1_2
  replace hBV := hBV.ext e1_2
  have h0 := hB1_2
  refine L (D_storeA Try.sizeOf139 hB1_2 rfl rfl rfl rfl rfl (l' := [typeHandle Try.prog 46, .pointer (some ⟨aBV, 0, none⟩), .int .u64 (151)]) rfl (fun w1_3 k1_3 hB1_2 => ?_))
  replace hE := hE.kpo k1_3 lB1_2
  replace hX := hX.kp k1_3 lB1_2
  replace hG := hR.ext _ _ _ hG0 hX
  replace hBV := hBV.kp k1_3 nBVB1_2
  refine S_nil ?_
  refine T_tn ?_
  refine wp_seq ?_
  refine W_region ?_
  refine L (D_v (R_move rfl) ?_)
  refine L (D_v (R_callX ext125 rfl rfl (hsw _)) ?_)
  refine L (D_v (R_assign rfl) ?_)
  refine S_nil ?_
  refine T_tn ?_
  refine W_region ?_
  refine L (D_v (R_move rfl) ?_)
  refine L (D_v (R_move rfl) ?_)
  refine L (D_v (R_buildS (vs := [(0, lf), (1, sf)]) (c := [lf, sf]) Try.runUnderlying145 places145 Try.zeroValue145 (mapp2 rfl rfl) (fill145 hlp hsp)) ?_)
  refine L (D_v (R_loadA (c := [typeHandle Try.prog 46, .pointer (some ⟨aBV, 0, none⟩), .int .u64 (151)]) Try.isAgg139 Try.sizeOf139 hB1_2 rfl rfl rfl) ?_)
  refine L (D_valueLen rfl hBV ?_)
  refine L (D_callS (R_callF Try.call126 rfl rfl) (c126 hR (f) _ hG) (fun w3_5 p3_5 => ?_))
  obtain ⟨e3_5, h3_5, hG, q3_5⟩ := p3_5
  replace hE := hE.chg e3_5
  replace hBV := hBV.chg e3_5 nGBV.symm
  replace hB1_2 := hB1_2.chg e3_5 nGB1_2.symm
  refine S_nil ?_
  refine ret0n rfl ⟨rfl, hE, ?_⟩
  exact ⟨_, hG, q3_5⟩
set_option maxRecDepth 4000 in
set_option maxHeartbeats 1000000 in
theorem c99 (u v : Value) (a b : List UInt8) (w : World) (ha : Bs w u a) (hb : Bs w v b) : Calls Try.prog 99 [u, v].toArray w (Ret w (i64 (Go.Lib.compareBytes a b))) := by
  refine enter Try.func99 Try.ntmps99 rfl rfl ?_
  have hE := Ext.refl w
  refine wp_seq ?_
  refine W_region ?_
  refine L (D_v (R_assign rfl) ?_)
  refine S_nil ?_
  refine T_tn ?_
  refine wp_seq ?_
  refine W_region ?_
  refine L (D_v (R_move rfl) ?_)
  refine L (D_v (R_move rfl) ?_)
  refine L (D_v (R_callX ext132 rfl rfl (run_compare (a := a) (b := b) (ha.ext hE) (hb.ext hE))) ?_)
  refine L (D_v (R_assign rfl) ?_)
  refine S_nil ?_
  refine T_tn ?_
  refine wp_ret ?_
  refine ret1 (v := .int _ _) rfl rfl ⟨?_, hE⟩
  rfl
set_option maxRecDepth 4000 in
set_option maxHeartbeats 1000000 in
theorem c61 (x y : Sg) (w : World) (hx : x.okf w.heap.size w) (hy : y.okf w.heap.size w) : Calls Try.prog 61 [x.v, y.v].toArray w (Ret w (.bool (lessP x.p y.p))) := by
  refine enter Try.func61 Try.ntmps61 rfl rfl ?_
  have hE := Ext.refl w
  refine wp_seq ?_
  refine W_region ?_
  refine L (D_box (c := (x).l) (rfl) (fun aB1_0 w1_0 e1_0 gB1_0 hB1_0 => ?_))
  have lB1_0 := Nat.le_trans hE.size gB1_0
  replace hE := hE.trans e1_0
  refine L (D_box (c := (y).l) (rfl) (fun aB1_1 w1_1 e1_1 gB1_1 hB1_1 => ?_))
  have lB1_1 := Nat.le_trans hE.size gB1_1
  have nB1_0B1_1 := hB1_0.ne gB1_1
  replace hE := hE.trans e1_1
  replace hB1_0 := hB1_0.ext e1_1
  refine L (D_v (R_assign rfl) ?_)
  refine S_nil ?_
  refine T_tn ?_
  refine wp_seq ?_
  refine wp_seq ?_
  refine W_region ?_
  refine L (D_v (R_fieldAddr Try.runUnderlying53 rfl Try.sizeOf26 rfl) ?_)
  refine L (D_v (R_loadA (c := ((x).vote).l) Try.isAgg26 Try.sizeOf26 hB1_0 rfl rfl rfl) ?_)
  refine L (D_v (R_fieldAddr Try.runUnderlying53 rfl Try.sizeOf26 rfl) ?_)
  refine L (D_v (R_loadA (c := ((y).vote).l) Try.isAgg26 Try.sizeOf26 hB1_1 rfl rfl rfl) ?_)
  refine L (D_v (R_neqA Try.eqGuardType26 (eq26 ((x).vote) ((y).vote) _) rfl rfl) ?_)
  refine S_nil ?_
  refine T_tn ?_
  refine W_if rfl (fun c1 => ?_) (fun c1 => ?_)
  ·
    have hne : (x).p.1 ≠ (y).p.1 := (show ¬ (x).vote = (y).vote by simpa using c1)
    refine wp_seq ?_
    refine W_region ?_
    refine L (D_v (R_fieldAddr Try.runUnderlying53 rfl Try.sizeOf26 rfl) ?_)
    refine L (D_v (R_loadA (c := ((x).vote).l) Try.isAgg26 Try.sizeOf26 hB1_0 rfl rfl rfl) ?_)
    refine L (D_v (R_fieldAddr Try.runUnderlying53 rfl Try.sizeOf26 rfl) ?_)
    refine L (D_v (R_loadA (c := ((y).vote).l) Try.isAgg26 Try.sizeOf26 hB1_1 rfl rfl rfl) ?_)
    refine L (D_call (R_callF Try.call33 rfl rfl) (c33 ((x).vote) ((y).vote) _ ) (fun w3_4 e3_4 => ?_))
    replace hE := hE.trans e3_4
    replace hB1_0 := hB1_0.ext e3_4
    replace hB1_1 := hB1_1.ext e3_4
    refine L (D_v (R_assign rfl) ?_)
    refine S_nil ?_
    refine T_tn ?_
    refine wp_ret ?_
    refine T_tr ?_
    refine ret1 (v := .bool _) rfl rfl ⟨?_, hE⟩
    rw [lessP_ne hne]; rfl
  ·
    have hne : (x).p.1 = (y).p.1 := (show (x).vote = (y).vote by simpa using c1)
    refine wp_skip ?_
    refine T_tn ?_
    refine wp_seq ?_
    refine W_region ?_
    refine L (D_v (R_fieldAddr Try.runUnderlying53 rfl Try.sizeOf31 rfl) ?_)
    refine L (D_v (R_load Try.isAgg31 hB1_0 rfl rfl) ?_)
    refine L (D_v (R_fieldAddr Try.runUnderlying53 rfl Try.sizeOf31 rfl) ?_)
    refine L (D_v (R_load Try.isAgg31 hB1_1 rfl rfl) ?_)
    refine L (D_call (R_callF Try.call99 rfl rfl) (c99 (.slice (x).A (x).n (x).c) (.slice (y).A (y).n (y).c) ((x).sig) ((y).sig) _ (hx.fb (Fb.ext hE)).bs (hy.fb (Fb.ext hE)).bs) (fun w3_4 e3_4 => ?_))
    replace hE := hE.trans e3_4
    replace hB1_0 := hB1_0.ext e3_4
    replace hB1_1 := hB1_1.ext e3_4
    refine L (D_v (R_lssI rfl rfl) ?_)
    refine L (D_v (R_assign rfl) ?_)
    refine S_nil ?_
    refine T_tn ?_
    refine wp_ret ?_
    refine ret1 (v := .bool _) rfl rfl ⟨?_, hE⟩
    rw [lessP_eq hne]; exact congrArg (fun z => Ending.returned (Value.bool z)) (ltB_cmp _ _)
set_option maxRecDepth 4000 in
set_option maxHeartbeats 2000000 in
theorem c96 (lo : Nat) (i j aB0 : Nat) (v : Value) (xs : List Sg) (w : World) (hlo : lo ≤ w.heap.size) (hT : Blk w aB0 [v] 46) (h : Ls cS lo w v xs) (hi : i < xs.length) (hj : j < xs.length) : Calls Try.prog 96 [i64 ((i : Nat) : Int), i64 ((j : Nat) : Int), .pointer (some ⟨aB0, 0, none⟩)].toArray w (Ret w (.bool (lessP (xs.getD i Sg.zero).p (xs.getD j Sg.zero).p))) := by
  refine enter Try.func96 Try.ntmps96 rfl rfl ?_
  have hE := Ext.refl w
  refine wp_seq ?_
  refine W_region ?_
  refine L (D_v (R_assign rfl) ?_)
  refine S_nil ?_
  refine T_tn ?_
  refine wp_seq ?_
  refine W_draw mixed (by kernel_rfl) ?_
  refine Q_v (fun w hw => R_load Try.isAgg46 (hT.ext hw) rfl rfl) ?_
  refine Q_v (fun w hw => R_move rfl) ?_
  refine Q_v (fun w hw => R_elAddr (i := i) Try.underlying46 Try.sizeOf53 rfl rfl (h.ext (hE.trans hw)).1 (by (try simp only [List.length_take, List.length_drop, List.length_append, List.length_cons, List.length_nil, List.length_replicate, List.length_set, Nm.b_len, be2_len]); omega)) ?_
  refine Q_v (fun w hw => R_ldL (C := cS) (i := i) (y := ((xs).getD (i) Sg.zero)) Try.isAgg53 Try.sizeOf53 rfl (h.ext (hE.trans hw)) (getD_some (d := Sg.zero) (by (try simp only [List.length_take, List.length_drop, List.length_append, List.length_cons, List.length_nil, List.length_replicate, List.length_set, Nm.b_len, be2_len]); omega))) ?_
  refine Q_v (fun w hw => R_load Try.isAgg46 (hT.ext hw) rfl rfl) ?_
  refine Q_v (fun w hw => R_move rfl) ?_
  refine Q_v (fun w hw => R_elAddr (i := j) Try.underlying46 Try.sizeOf53 rfl rfl (h.ext (hE.trans hw)).1 (by (try simp only [List.length_take, List.length_drop, List.length_append, List.length_cons, List.length_nil, List.length_replicate, List.length_set, Nm.b_len, be2_len]); omega)) ?_
  refine Q_v (fun w hw => R_ldL (C := cS) (i := j) (y := ((xs).getD (j) Sg.zero)) Try.isAgg53 Try.sizeOf53 rfl (h.ext (hE.trans hw)) (getD_some (d := Sg.zero) (by (try simp only [List.length_take, List.length_drop, List.length_append, List.length_cons, List.length_nil, List.length_replicate, List.length_set, Nm.b_len, be2_len]); omega))) ?_
  refine Q_call (fun w hw => R_callF Try.call61 rfl rfl) (fun w hw => c61 (((xs).getD (i) Sg.zero)) (((xs).getD (j) Sg.zero)) _ (((h.get (getD_some (d := Sg.zero) (by (try simp only [List.length_take, List.length_drop, List.length_append, List.length_cons, List.length_nil, List.length_replicate, List.length_set, Nm.b_len, be2_len]); omega))).fb (Fb.ext (hE.trans hw))).up (Nat.le_trans hlo (hE.trans hw).size)) (((h.get (getD_some (d := Sg.zero) (by (try simp only [List.length_take, List.length_drop, List.length_append, List.length_cons, List.length_nil, List.length_replicate, List.length_set, Nm.b_len, be2_len]); omega))).fb (Fb.ext (hE.trans hw))).up (Nat.le_trans hlo (hE.trans hw).size))) ?_
  refine Q_v (fun w hw => R_assign rfl) ?_
  refine Q_nil (fun w2_99 e2_99 => ?_)
  replace hE := hE.trans e2_99
  replace hT := hT.ext e2_99
  refine T_tn ?_
  refine wp_ret ?_
  refine ret1 (v := .bool _) rfl rfl ⟨congrArg (fun b => Ending.returned (Value.bool b)) ?_, hE⟩
  exact rfl
end Go.Proofs.Yteeopgpgbdhmhaa
namespace Go.Proofs.Yteeopgpgbdhmhaa
open Go.RowKit Go.Lib
set_option linter.unusedVariables false
set_option linter.unusedSimpArgs false
def srtL (xs : List Sg) : Prop := ∀ (i j : Nat) (x y : Sg), i < j → xs[i]? = some x → xs[j]? = some y → lessP y.p x.p = false
def ltS (a b : Sg) : Bool := lessP a.p b.p
theorem ordS : Ordd ltS := sto_P.ord.pull Sg.p
def Sorted46 (lo lk : Nat) (v : Value) (xs : List Sg) (w w' : World) : Prop :=
  w.grownBy w' v.ownBlock ∧ Fb lo w w' ∧ ∃ xs', Ow cS lo lk w' v xs' ∧ xs'.length = xs.length ∧ (∀ p, p ∈ xs'.map Sg.p ↔ p ∈ xs.map Sg.p) ∧ srtL xs'
theorem lsf_getD {n i : Nat} (f : Nat → Sg) (h : i < n) : (lsf n f).getD i Sg.zero = f i := by rw [List.getD_eq_getElem?_getD, lsf_at f h]; rfl
theorem lsf_of (xs : List Sg) : lsf xs.length (fun k => xs.getD k Sg.zero) = xs := by
  apply List.ext_getElem?
  intro k
  by_cases hk : k < xs.length
  · rw [lsf_at _ hk, List.getD_eq_getElem?_getD, List.getElem?_eq_getElem hk]; rfl
  · rw [List.getElem?_eq_none (by rw [lsf_len]; omega), List.getElem?_eq_none (by omega)]
theorem swp_same {α : Type} (f : Nat → α) (i : Nat) : swp f i i = f := by
  funext k; unfold swp; split
  · rename_i h; rw [h]
  · rfl
theorem cv_less {g n cap aT lo : Nat} {tl : List Value} {f : Nat → Sg} {W : World} (h : RowS g n cap aT lo tl f W) (hc : n ≤ cap) (hm : cap ≤ 9223372036854775807) (hlo : lo ≤ g) {i j : Nat} (hi : i < n) (hj : j < n) :
    CV Try.prog (.func (.func 96) #[] #[.pointer (some ⟨aT, 0, none⟩)]) [i64 (i : Int), i64 (j : Int)] W (fun v W' => v = .bool (ltS (f i) (f j)) ∧ Ext W W') := by
  refine ⟨96, _, rfl, .inl ⟨Try.call96 _ _, ?_⟩⟩
  have := c96 lo i j aT (.slice (some ⟨g, 0, none⟩) n cap) (lsf n f) W (Nat.le_trans hlo (Nat.le_of_lt h.row.lt)) h.cell (h.ls hc hm) (by rw [lsf_len]; exact hi) (by rw [lsf_len]; exact hj)
  refine this.mono ?_
  rintro e W' ⟨rfl, hE⟩
  rw [lsf_getD f hi, lsf_getD f hj]
  exact ⟨_, rfl, rfl, hE⟩
theorem srt_many {g n cap aT lo : Nat} (tl : List Value) (hc : n ≤ cap) (hm : cap ≤ 9223372036854775807) (hlo : lo ≤ g) (hn : n ≤ 1000000) (hk : 2 ≤ n) :
    Srt Try.prog (RowS g n cap aT lo tl) g n (.func (.func 96) #[] #[.pointer (some ⟨aT, 0, none⟩)]) (.func (.func 154) #[] #[.slice (some ⟨g, 0, none⟩) n cap, typeHandle Try.prog 53]) ltS where
  ord := ordS
  lp := rfl
  sp := rfl
  nb := hn
  bound := fun f W h => h.row.lt
  ext := fun f W W' h e => h.ext e
  less := fun f W i j h hi hj => cv_less h hc hm hlo hi hj
  swap := fun f W i j h hi hj => by
    obtain ⟨W', h1, h2, h3⟩ := run_swapS h hlo hi hj
    refine ⟨154, _, rfl, .inr ⟨.tuple #[], W', ?_, rfl, h2, h3⟩⟩
    have e : ([i64 (i : Int), i64 (j : Int)].toArray ++ #[Value.slice (some ⟨g, 0, none⟩) n cap, typeHandle Try.prog 53]) = #[.int .i64 (i : Int), .int .i64 (j : Int), .slice (some ⟨g, 0, none⟩) n cap, typeHandle Try.prog 53] := rfl
    rw [e, ext154, h1]
    rfl
theorem srt_one {g cap aT lo : Nat} (tl : List Value) (hc : 1 ≤ cap) (hm : cap ≤ 9223372036854775807) (hlo : lo ≤ g) :
    Srt Try.prog (RowS g 1 cap aT lo tl) g 1 (.func (.func 96) #[] #[.pointer (some ⟨aT, 0, none⟩)]) (.func (.func 147) #[] #[]) ltS where
  ord := ordS
  lp := rfl
  sp := rfl
  nb := by decide
  bound := fun f W h => h.row.lt
  ext := fun f W W' h e => h.ext e
  less := fun f W i j h hi hj => cv_less h hc hm hlo hi hj
  swap := fun f W i j h hi hj => by
    obtain rfl : i = 0 := by omega
    obtain rfl : j = 0 := by omega
    refine ⟨147, _, rfl, .inr ⟨.tuple #[], W, ?_, rfl, Chg.refl _ _, by rw [swp_same]; exact h⟩⟩
    rw [ext147]
    rfl
theorem srt_zero {g cap aT lo : Nat} (tl : List Value) : Srt Try.prog (RowS g 0 cap aT lo tl) g 0 (.func (.func 96) #[] #[.pointer (some ⟨aT, 0, none⟩)]) (.func (.func 146) #[] #[]) ltS where
  ord := ordS
  lp := rfl
  sp := rfl
  nb := by decide
  bound := fun f W h => h.row.lt
  ext := fun f W W' h e => h.ext e
  less := fun f W i j h hi hj => by omega
  swap := fun f W i j h hi hj => by omega
theorem srt_nil {aT : Nat} : Srt Try.prog (fun (_ : Nat → Sg) W => Blk W aT [.slice none 0 0] 46) aT 0 (.func (.func 96) #[] #[.pointer (some ⟨aT, 0, none⟩)]) (.func (.func 146) #[] #[]) ltS where
  ord := ordS
  lp := rfl
  sp := rfl
  nb := by decide
  bound := fun f W h => h.lt
  ext := fun f W W' h e => h.ext e
  less := fun f W i j h hi hj => by omega
  swap := fun f W i j h hi hj => by omega
theorem sort46_of {g n cap aT lo lk : Nat} {tl : List Value} {f : Nat → Sg} {w : World} {sf : Value} (hg : lk ≤ g) (hll : lo ≤ lk) (hc : n ≤ cap) (hm : cap ≤ maxLen) (htl : tl.length = cap * 23 - n * 23) (hS : RowS g n cap aT lo tl f w)
    (hR : Srt Try.prog (RowS g n cap aT lo tl) g n (.func (.func 96) #[] #[.pointer (some ⟨aT, 0, none⟩)]) sf ltS) (hsw : isSw (.slice (some ⟨g, 0, none⟩) n cap) sf) :
    Calls Try.prog 95 [.iface 46 (.slice (some ⟨g, 0, none⟩) n cap), .func (.func 96) #[] #[.pointer (some ⟨aT, 0, none⟩)]].toArray w (fun e w' => e = .returned (.tuple #[]) ∧ Sorted46 lo lk (.slice (some ⟨g, 0, none⟩) n cap) (lsf n f) w w') := by
  refine (c95 hR f (some ⟨g, 0, none⟩) cap w hS hsw).mono ?_
  rintro e w' ⟨rfl, hch, f', hS', hmv, hsr⟩
  have hfb : Fb lo w w' := Fb.chg hch (Nat.le_trans hll hg) (Blk.notB hS.row rfl)
  refine ⟨rfl, ⟨hch.os, hch.tape, hch.output, hch.size, fun k hk hne => hch.block k hk (fun e => hne (by rw [e]; rfl))⟩, hfb, lsf n f', ⟨?_, fun x hx => ?_⟩, by rw [lsf_len, lsf_len], fun p => ?_, ?_⟩
  · have hcl : (cS.cs (lsf n f')).length = n * 23 := by rw [cs_len, lsf_len]; rfl
    have hle : n * 23 ≤ cap * 23 := Nat.mul_le_mul_right _ hc
    rw [lsf_len]
    refine ⟨hcl, .inr ⟨g, cap, _, rfl, hg, hS'.row, hc, hm, ?_, ?_⟩⟩
    · show (cS.cs (lsf n f') ++ tl).toArray.size = cap * 23
      rw [List.size_toArray, List.length_append, hcl, htl]; omega
    · exact List.take_left' hcl
  · obtain ⟨k, hk⟩ := List.getElem?_of_mem hx
    have hkn : k < n := by have := (List.getElem?_eq_some_iff.1 hk).1; rwa [lsf_len] at this
    rw [lsf_at f' hkn] at hk; cases hk; exact hS'.ok k hkn
  · constructor
    · intro hp
      obtain ⟨x, hx, rfl⟩ := List.mem_map.1 hp
      obtain ⟨k, hk⟩ := List.getElem?_of_mem hx
      have hkn : k < n := by have := (List.getElem?_eq_some_iff.1 hk).1; rwa [lsf_len] at this
      rw [lsf_at f' hkn] at hk; cases hk
      obtain ⟨j, _, hj, e⟩ := hmv.to k (Nat.zero_le _) hkn
      exact List.mem_map.2 ⟨f j, List.mem_of_getElem? (lsf_at f hj), by rw [e]⟩
    · intro hp
      obtain ⟨x, hx, rfl⟩ := List.mem_map.1 hp
      obtain ⟨k, hk⟩ := List.getElem?_of_mem hx
      have hkn : k < n := by have := (List.getElem?_eq_some_iff.1 hk).1; rwa [lsf_len] at this
      rw [lsf_at f hkn] at hk; cases hk
      obtain ⟨j, _, hj, e⟩ := hmv.fro k (Nat.zero_le _) hkn
      exact List.mem_map.2 ⟨f' j, List.mem_of_getElem? (lsf_at f' hj), by rw [e]⟩
  · intro i j x y hij hx hy
    have hjn : j < n := by have := (List.getElem?_eq_some_iff.1 hy).1; rwa [lsf_len] at this
    rw [lsf_at f' (by omega)] at hx
    rw [lsf_at f' hjn] at hy
    cases hx; cases hy
    exact hsr i j (Nat.zero_le _) hij hjn
theorem sort46 {lo lk aT : Nat} {v : Value} {xs : List Sg} {w : World} (hO : Ow cS lo lk w v xs) (hll : lo ≤ lk) (hT : Blk w aT [v] 46) (hn : xs.length ≤ 1000000) :
    Calls Try.prog 95 [.iface 46 v, .func (.func 96) #[] #[.pointer (some ⟨aT, 0, none⟩)]].toArray w (fun e w' => e = .returned (.tuple #[]) ∧ Sorted46 lo lk v xs w w') := by
  obtain ⟨⟨hl, ⟨rfl, h0⟩ | ⟨g, cap, cur, rfl, hg, hb, h1, h2, h3, h4⟩⟩, hok⟩ := hO
  · obtain rfl : xs = [] := List.eq_nil_of_length_eq_zero h0
    refine (c95 srt_nil (fun _ => Sg.zero) none 0 w hT (isSw_zero none 0)).mono ?_
    rintro e w' ⟨rfl, hch, f', hS', _, _⟩
    have hblk : ∀ k, k < w.heap.size → w'.heap[k]? = w.heap[k]? := fun k hk => by
      by_cases e : k = aT
      · subst e
        have e1 : w'.heap[k]? = _ := hS'
        have e2 : w.heap[k]? = _ := hT
        rw [e1, e2]
      · exact hch.block k hk e
    have hx : Ext w w' := ⟨hch.os, hch.tape, hch.output, hch.size, hblk⟩
    exact ⟨rfl, ⟨hch.os, hch.tape, hch.output, hch.size, fun k hk _ => hblk k hk⟩, Fb.ext hx, [], Ow.nil _ _ _ _, rfl, fun _ => Iff.rfl, fun i j x y _ hx => by simp at hx⟩
  · have hB : Blk w g cur.toList 53 := by
      have hb' : w.heap[g]? = some (.cells cur 53 (0, 0)) := hb
      simpa [Blk] using hb'
    have h3' : cur.size = cap * 23 := h3
    have h4' : cur.toList.take (xs.length * 23) = cS.cs xs := h4
    have hcat : cur.toList = cS.cs (lsf xs.length (fun k => xs.getD k Sg.zero)) ++ cur.toList.drop (xs.length * 23) := by rw [lsf_of, ← h4', List.take_append_drop]
    rw [hcat] at hB
    have hS : RowS g xs.length cap aT lo (cur.toList.drop (xs.length * 23)) (fun k => xs.getD k Sg.zero) w := ⟨hB, hT, fun k hk => hok _ (by
      show xs.getD k Sg.zero ∈ xs
      rw [List.getD_eq_getElem?_getD, List.getElem?_eq_getElem hk]; exact List.getElem_mem hk)⟩
    have hm : cap ≤ 9223372036854775807 := h2
    have htl : (cur.toList.drop (xs.length * 23)).length = cap * 23 - xs.length * 23 := by rw [List.length_drop]; simp [h3']
    have key : ∀ sf, Srt Try.prog (RowS g xs.length cap aT lo (cur.toList.drop (xs.length * 23))) g xs.length (.func (.func 96) #[] #[.pointer (some ⟨aT, 0, none⟩)]) sf ltS → isSw (.slice (some ⟨g, 0, none⟩) xs.length cap) sf →
        Calls Try.prog 95 [.iface 46 (.slice (some ⟨g, 0, none⟩) xs.length cap), .func (.func 96) #[] #[.pointer (some ⟨aT, 0, none⟩)]].toArray w (fun e w' => e = .returned (.tuple #[]) ∧ Sorted46 lo lk (.slice (some ⟨g, 0, none⟩) xs.length cap) xs w w') := by
      intro sf hR hsw
      have := sort46_of hg hll h1 h2 htl hS hR hsw
      rwa [lsf_of] at this
    rcases Nat.lt_or_ge xs.length 2 with hs | hs
    · by_cases hz : xs.length = 0
      · refine key (.func (.func 146) #[] #[]) ?_ ?_
        · rw [hz]; exact srt_zero _
        · rw [hz]; exact isSw_zero _ _
      · have h1l : xs.length = 1 := by omega
        refine key (.func (.func 147) #[] #[]) ?_ ?_
        · rw [h1l]; rw [h1l] at h1; exact srt_one _ h1 hm (Nat.le_trans hll hg)
        · rw [h1l]; exact isSw_one _ _
    · exact key _ (srt_many _ h1 hm (Nat.le_trans hll hg) hn hs) (isSw_many _ _ hs)
end Go.Proofs.Yteeopgpgbdhmhaa
namespace Go.Proofs.Yteeopgpgbdhmhaa
open Go.RowKit Go.Lib
set_option linter.unusedVariables false
set_option linter.unusedSimpArgs false
/-- Slice va reads as ys wherever v reads as xs. -/
def CutOf {α : Type} (C : Cd α) (v : Value) (xs : List α) (va : Value) (ys : List α) : Prop := (∀ W, Rs W v xs.length C.sz (C.cs xs) → Rs W va ys.length C.sz (C.cs ys)) ∧ (∀ y ∈ ys, y ∈ xs) ∧ ys.length ≤ xs.length
section
variable {α : Type} {C : Cd α} {lo : Nat} {w : World} {v va : Value} {xs ys : List α}
theorem CutOf.refl (C : Cd α) (v : Value) (xs : List α) : CutOf C v xs v xs := ⟨fun _ h => h, fun _ h => h, Nat.le_refl _⟩
theorem CutOf.cut (c : CutOf C v xs va ys) {i j : Nat} (hij : i ≤ j) (hj : j ≤ ys.length) : CutOf C v xs (cutV va C.sz i j) ((ys.drop i).take (j - i)) := by
  refine ⟨fun W h => ?_, fun y hy => c.2.1 y (List.mem_of_mem_drop (List.mem_of_mem_take hy)), ?_⟩
  · have h1 : Ls ({C with ok := fun _ _ _ => True, okz := fun _ _ => trivial, fb := fun _ _ _ _ _ _ => trivial} : Cd α) 0 W va ys := ⟨c.1 W h, fun _ _ => trivial⟩
    exact (h1.cut hij hj).1
  · have := c.2.2
    rw [List.length_take, List.length_drop]; omega
end
theorem lel_ltz {α : Type} {C : Cd α} {xs : List α} {j s : Nat} {y : α} (hs : C.sz = s) (hk : 0 < s) (hy : xs[j]? = some y) : j * s < (C.cs xs).length := by subst hs; exact lel_lt (k := 0) hy hk
theorem gext {w w' : World} (g : w.grownBy w' (Value.slice none 0 0).ownBlock) : Ext w w' := ⟨g.1, g.2, g.3, g.4, fun k hk => g.5 k hk (fun e => nomatch (show (none : Option Nat) = some k from e.symm))⟩
section
variable {P : Program} {ρ : Operand → Value} {w : World} {dst : Option Tmp} {ty : TypeId} {pos : String} {aft : Array Edge} {gd : Option (Nat × Bool)}
end
section
variable {P : Program} {ops : Array Oper} {Q : Exit → Act → World → Prop} {K : Act → World → Prop} {n : Nat} {f : Nat → Value} {w : World} {d : Option Tmp} {ty : TypeId} {pos : String} {aft : Array Edge}
end
/-- A beginning of an own row is an own row. -/
theorem OwnB.take {w : World} {lo : Nat} {v : Value} {b : List UInt8} (h : OwnB w lo v b) {j : Nat} (hj : j ≤ b.length) : OwnB w lo (cutV v 1 0 j) (((b).drop 0).take (j - 0)) := by
  obtain ⟨hl, ⟨rfl, h0⟩ | ⟨g, cap, cur, rfl, hg, hb, h1, h2, h3, h4⟩⟩ := h
  · obtain rfl : b = [] := List.eq_nil_of_length_eq_zero h0
    obtain rfl : j = 0 := by simpa using hj
    exact OwnB.nil w lo
  · refine ⟨by simp [bl_len], .inr ⟨g, cap, cur, ?_, hg, hb, ?_, h2, h3, ?_⟩⟩
    · simp only [cutV, List.drop_zero, List.length_take, Nat.sub_zero, Nat.zero_mul]
      rw [Nat.min_eq_left hj]
      by_cases hc : cap = 0
      · rw [if_pos hc]
      · rw [if_neg hc]; rfl
    · simp only [List.drop_zero, List.length_take, Nat.sub_zero]; omega
    · simp only [List.drop_zero, Nat.sub_zero, List.length_take, Nat.mul_one, Nat.min_eq_left hj] at h4 ⊢
      have e : cur.toList.take j = (cur.toList.take b.length).take j := by rw [List.take_take, Nat.min_eq_left hj]
      rw [e, h4]; simp [bl, List.map_take]
end Go.Proofs.Yteeopgpgbdhmhaa
namespace Go.Proofs.Yteeopgpgbdhmhaa
open Go.RowKit Go.Lib
set_option linter.unusedVariables false
set_option linter.unusedSimpArgs false
section
variable {P : Program} {ρ : Operand → Value} {w : World} {dst : Option Tmp} {ty : TypeId} {pos : String} {aft : Array Edge} {gd : Option (Nat × Bool)}
theorem R_mkI {x : Operand} {v : Value} {t e : TypeId} (ht : P.underlying t = some (.slice e)) (hx : ρ x = v) : (execOp ρ ⟨dst, .makeInterface t x, ty, pos, aft, gd⟩).run P w = .ok (.value (.iface t v)) w := by
  simp [execOp, hx, Instr.makeInterface, run_underlying ht]
theorem R_mkF1 {x : Operand} {v : Value} {F : Fn} (hx : ρ x = v) : (execOp ρ ⟨dst, .makeFunc F #[] #[x], ty, pos, aft, gd⟩).run P w = .ok (.value (.func F #[] #[v])) w := by
  simp [execOp, hx, Instr.makeFunc]
end
theorem rs_pl {w : World} {v : Value} {m sz : Nat} {cs : List Value} (h : Rs w v m sz cs) : plainV v = true := by
  obtain ⟨_, A, c, rfl, _⟩ := h; rfl
theorem fillp {xs ys : List Sg} {i : Nat} {y : Sg} (h : (ys.take i).map Sg.p = (xs.take i).map Sg.p) (hl : ys.length = xs.length) (lk : i < xs.length) (hy : y.p = (xs.getD i Sg.zero).p) : ((ys.set i y).take (i + 1)).map Sg.p = (xs.take (i + 1)).map Sg.p := by
  have hi : i < ys.length := by omega
  have e1 : (ys.set i y).take (i + 1) = ys.take i ++ [y] := by
    apply List.ext_getElem?
    intro k
    rw [List.getElem?_take, List.getElem?_set]
    rcases Nat.lt_trichotomy k i with hk | hk | hk
    · rw [if_pos (by omega), if_neg (by omega), List.getElem?_append_left (by rw [List.length_take]; omega), List.getElem?_take, if_pos hk]
    · subst hk; rw [if_pos (by omega), if_pos rfl, if_pos hi, List.getElem?_append_right (by rw [List.length_take]; omega), List.length_take, Nat.min_eq_left (by omega), Nat.sub_self]; rfl
    · rw [if_neg (by omega), List.getElem?_eq_none (by rw [List.length_append, List.length_take, List.length_singleton]; omega)]
  rw [e1, List.map_append, h, List.take_add_one, List.map_append, List.getElem?_eq_getElem lk]
  have e2 : xs.getD i Sg.zero = xs[i] := by simp [List.getD, lk]
  rw [e2] at hy
  simp [hy]
/-- what is kept of a sorted list: the first of each vote -/
def ddn (zs : List Sg) : Nat → List Sg
  | 0 => []
  | k + 1 => if k = 0 ∨ (zs.getD k Sg.zero).vote ≠ (zs.getD (k - 1) Sg.zero).vote then ddn zs k ++ [zs.getD k Sg.zero] else ddn zs k
theorem ddn_len (zs : List Sg) : ∀ k, (ddn zs k).length ≤ k
  | 0 => Nat.le_refl _
  | k + 1 => by
    have := ddn_len zs k
    rw [ddn]; split
    · rw [List.length_append, List.length_singleton]; omega
    · omega
theorem ddn_y {zs ys : List Sg} {k : Nat} (h : ys = ddn zs k) (hc : k = 0 ∨ (zs.getD k Sg.zero).vote ≠ (zs.getD (k - 1) Sg.zero).vote) : ys ++ [zs.getD k Sg.zero] = ddn zs (k + 1) := by rw [ddn, if_pos hc, h]
theorem ddn_n {zs ys : List Sg} {k : Nat} (h : ys = ddn zs k) (hc : ¬ (k = 0 ∨ (zs.getD k Sg.zero).vote ≠ (zs.getD (k - 1) Sg.zero).vote)) : ys = ddn zs (k + 1) := by rw [ddn, if_neg hc, h]
end Go.Proofs.Yteeopgpgbdhmhaa
namespace Go.Proofs.Yteeopgpgbdhmhaa
open Go.RowKit
set_option linter.unusedVariables false
set_option linter.unusedSimpArgs false
attribute [local irreducible] wpList wpO H wpQuiet wpStill Code.wp Exit.then Exit.inBlock bodyPost Code.rounds Calls valid lessV hless num between
set_option maxRecDepth 4000 in
set_option maxHeartbeats 2000000 in
theorem c57 (lo : Nat) (v : Value) (xs : List Sg) (w : World) (hlo : lo ≤ w.heap.size) (hn : xs.length ≤ 1000000) (h : Ls cS lo w v xs) (hsl : ∀ x ∈ xs, x.sig.length ≤ 140737488355328) : Calls Try.prog 57 [v].toArray w (RetE w fun r w' => ∃ ys, Ow cS lo w.heap.size w' r ys ∧ ∃ zs : List Sg, zs.length = xs.length ∧ (∀ p, p ∈ zs.map Sg.p ↔ p ∈ xs.map Sg.p) ∧ srtL zs ∧ ys = ddn zs zs.length) := by
  refine enter Try.func57 Try.ntmps57 rfl rfl ?_
  have hE := Ext.refl w
  refine wp_seq ?_
  refine W_region ?_
  refine L (D_v (R_assign rfl) ?_)
  refine S_nil ?_
  refine T_tn ?_
  refine wp_seq ?_
  refine W_region ?_
  refine L (D_v (R_move rfl) ?_)
  refine L (D_v (R_len Try.underlying46 rfl (h.ext hE).1) ?_)
  refine L (D_makeL (C := cS) (lo := lo) (l := (xs).length) (c := (xs).length) mk53 Try.underlying46 rfl rfl (by (try simp only [List.length_take, List.length_drop, List.length_append, List.length_cons, List.length_nil, List.length_replicate, List.length_set, Nm.b_len, be2_len]); omega) (by (try simp only [List.length_take, List.length_drop, List.length_append, List.length_cons, List.length_nil, List.length_replicate, List.length_set, Nm.b_len, be2_len]); omega) (by (try simp only [List.length_take, List.length_drop, List.length_append, List.length_cons, List.length_nil, List.length_replicate, List.length_set, Nm.b_len, be2_len]); omega) (fun v2_2 w2_2 o2_2 e2_2 => ?_))
  replace o2_2 := o2_2.low hE.size
  replace hE := hE.trans e2_2
  refine L (D_alloc (c := [(Value.slice none 0 0)]) Try.zeroValue46 rfl (fun aB2_3 w2_3 e2_3 gB2_3 hB2_3 => ?_))
  have lB2_3 := Nat.le_trans hE.size gB2_3
  replace hE := hE.trans e2_3
  replace o2_2 := o2_2.ext e2_3
  have xo2_2 := own_neB o2_2.1 hB2_3 rfl
  have h0 := hB2_3
  refine L (D_store1 Try.sizeOf46 hB2_3 rfl rfl (rs_pl o2_2.ls.1) rfl (fun w2_4 k2_4 (hB2_3 : Blk w2_4 aB2_3 [v2_2] 46) => ?_))
  have f2_4 := Fb.kp k2_4 (Nat.le_trans hlo lB2_3) (Blk.notB h0 rfl)
  replace hE := hE.kp k2_4 lB2_3
  replace o2_2 := o2_2.kp k2_4 xo2_2 f2_4
  refine S_nil ?_
  refine T_tn ?_
  refine wp_seq ?_
  refine wp_seq ?_
  refine W_region ?_
  refine L (D_v (R_move rfl) ?_)
  refine L (D_v (R_len Try.underlying46 rfl (h.ext hE).1) ?_)
  refine L (D_v (R_move rfl) ?_)
  refine S_nil ?_
  refine T_tn ?_
  refine wp_block ?_
  refine W_loop (fun mz g W => ∃ (i : Nat) (ys : List Sg), mz = xs.length - i ∧ g 3 = .pointer (some ⟨aB2_3, 0, none⟩) ∧ g 12 = v ∧ g 13 = i64 (((xs).length : Nat) : Int) ∧ g 14 = i64 ((i : Nat) : Int) ∧ Ext w W ∧ Blk W aB2_3 [v2_2] 46 ∧ Ow cS lo w.heap.size W v2_2 ys ∧ i ≤ xs.length ∧ ys.length = xs.length ∧ (ys.take i).map Sg.p = (xs.take i).map Sg.p) ⟨0, _, rfl, rfl, rfl, rfl, rfl, hE, hB2_3, o2_2, (Nat.zero_le _), (by simp), (by simp)⟩ ?_
  rintro mz f4 w4l ⟨i, ys, hm, q3, q12, q13, q14, hE, hB2_3, ov2_2, hi, hyl, hyp⟩
  refine wp_seq ?_
  refine W_region ?_
  refine L (D_v (R_lssI q14 q13) ?_)
  refine S_nil ?_
  refine T_tn ?_
  refine wp_seq ?_
  refine W_if rfl (fun c1 => ?_) (fun c1 => ?_)
  ·
    have lk : i < xs.length := by simp at c1; omega
    have hsi := hsl _ (List.getElem_mem (by exact lk))
    have hgd : xs.getD i Sg.zero = xs[i] := by simp [List.getD, lk]
    rw [← hgd] at hsi
    refine wp_skip ?_
    refine T_tn ?_
    refine wp_seq ?_
    refine wp_block ?_
    refine wp_seq ?_
    refine W_region ?_
    refine L (D_v (R_move q14) ?_)
    refine L (D_v (R_elAddr (i := i) Try.underlying46 Try.sizeOf53 q12 q14 (h.ext hE).1 (by (try simp only [List.length_take, List.length_drop, List.length_append, List.length_cons, List.length_nil, List.length_replicate, List.length_set, Nm.b_len, be2_len]); omega)) ?_)
    have k6_2 := ((h.ext hE)).get (getD_some (d := Sg.zero) (by (try simp only [List.length_take, List.length_drop, List.length_append, List.length_cons, List.length_nil, List.length_replicate, List.length_set, Nm.b_len, be2_len]); omega))
    refine L (D_v (R_ldL (C := cS) (i := i) (y := ((xs).getD (i) Sg.zero)) Try.isAgg53 Try.sizeOf53 rfl (h.ext hE) (getD_some (d := Sg.zero) (by (try simp only [List.length_take, List.length_drop, List.length_append, List.length_cons, List.length_nil, List.length_replicate, List.length_set, Nm.b_len, be2_len]); omega))) ?_)
    refine L (D_alloc (c := (Sg.zero).l) Try.zeroValue53 rfl (fun aB6_3 w6_3 e6_3 gB6_3 hB6_3 => ?_))
    have lB6_3 := Nat.le_trans hE.size gB6_3
    have nB2_3B6_3 := hB2_3.ne gB6_3
    have yv2_2_B6_3 : Value.ownBlock v2_2 ≠ some aB6_3 := fun hk => absurd (own_lt ov2_2.1 hk) (Nat.not_lt.2 gB6_3)
    replace hE := hE.trans e6_3
    replace hB2_3 := hB2_3.ext e6_3
    replace ov2_2 := ov2_2.ext e6_3
    replace k6_2 := k6_2.fb (Fb.ext e6_3)
    refine L (D_v (R_assign rfl) ?_)
    have xov2_2 := yv2_2_B6_3
    have h0 := hB6_3
    refine L (D_storeA Try.sizeOf53 hB6_3 rfl rfl rfl rfl rfl (l' := (((xs).getD (i) Sg.zero)).l) rfl (fun w6_5 k6_5 hB6_3 => ?_))
    have f6_5 := Fb.kp k6_5 (Nat.le_trans hlo lB6_3) (Blk.notB h0 rfl)
    replace hE := hE.kp k6_5 lB6_3
    replace hB2_3 := hB2_3.kp k6_5 nB2_3B6_3
    replace ov2_2 := ov2_2.kp k6_5 xov2_2 f6_5
    replace k6_2 := k6_2.fb f6_5
    refine S_nil ?_
    refine T_tn ?_
    refine W_held (fun W => Ext w W ∧ Blk W aB2_3 [v2_2] 46 ∧ Blk W aB6_3 (((xs).getD (i) Sg.zero)).l 53 ∧ Sg.okf lo W (((xs).getD (i) Sg.zero)) ∧ True) mixed (fun w7_99 e7_99 => ?_)
    replace hE := hE.trans e7_99
    replace hB2_3 := hB2_3.ext e7_99
    replace hB6_3 := hB6_3.ext e7_99
    replace ov2_2 := ov2_2.ext e7_99
    replace k6_2 := k6_2.fb (Fb.ext e7_99)
    refine H_take (i := 0) rfl (by kernel_rfl) (by kernel_rfl) (by kernel_rfl) rfl (pq_block (pq_then (pq_then (pq_block (pq_then pq_body))))) ⟨hE, hB2_3, hB6_3, k6_2, trivial⟩ rfl (fun w hw => R_load Try.isAgg46 hw.2.1 q3 rfl) ?_
    refine H_take (i := 1) rfl (by kernel_rfl) (by kernel_rfl) (by kernel_rfl) rfl (pq_block (pq_then (pq_then (pq_block (pq_then pq_body))))) ⟨hE, hB2_3, hB6_3, k6_2, trivial⟩ rfl (fun w hw => R_move rfl) ?_
    refine H_take (i := 2) rfl (by kernel_rfl) (by kernel_rfl) (by kernel_rfl) rfl (pq_block (pq_then (pq_then (pq_block (pq_then pq_body))))) ⟨hE, hB2_3, hB6_3, k6_2, trivial⟩ rfl (fun w hw => R_fieldAddr Try.runUnderlying53 rfl Try.sizeOf26 rfl) ?_
    refine H_take (i := 3) rfl (by kernel_rfl) (by kernel_rfl) (by kernel_rfl) rfl (pq_block (pq_then (pq_then (pq_block (pq_then pq_body))))) ⟨hE, hB2_3, hB6_3, k6_2, trivial⟩ rfl (fun w hw => R_loadA (c := ((((xs).getD (i) Sg.zero)).vote).l) Try.isAgg26 Try.sizeOf26 hw.2.2.1 rfl rfl rfl) ?_
    refine H_take (i := 4) rfl (by kernel_rfl) (by kernel_rfl) (by kernel_rfl) rfl (pq_block (pq_then (pq_then (pq_block (pq_then pq_body))))) ⟨hE, hB2_3, hB6_3, k6_2, trivial⟩ rfl (fun w hw => R_fieldAddr Try.runUnderlying53 rfl Try.sizeOf31 rfl) ?_
    refine H_take (i := 5) rfl (by kernel_rfl) (by kernel_rfl) (by kernel_rfl) rfl (pq_block (pq_then (pq_then (pq_block (pq_then pq_body))))) ⟨hE, hB2_3, hB6_3, k6_2, trivial⟩ rfl (fun w hw => R_load Try.isAgg31 hw.2.2.1 rfl rfl) ?_
    refine H_op (i := 6) (by kernel_rfl) rfl rfl (D_callE (R_callF Try.call86 rfl rfl) (c86_0 (.slice (((xs).getD (i) Sg.zero)).A (((xs).getD (i) Sg.zero)).n (((xs).getD (i) Sg.zero)).c) ((((xs).getD (i) Sg.zero)).sig) _ _ k6_2.bs (by simp only [List.length_nil, Nat.add_zero, Nat.zero_add]; omega)) (fun v7_6 w7_6 e7_6 p7_6 => ?_))
    have o7_6 := p7_6
    replace o7_6 := o7_6.lo hE.size
    replace hE := hE.trans e7_6
    replace hB2_3 := hB2_3.ext e7_6
    replace hB6_3 := hB6_3.ext e7_6
    replace ov2_2 := ov2_2.ext e7_6
    replace k6_2 := k6_2.fb (Fb.ext e7_6)
    refine ⟨⟨hE, hB2_3, hB6_3, k6_2, trivial⟩, ?_⟩
    have k7_7 : Sg.okf lo w7_6 (mkSg ((((xs).getD (i) Sg.zero)).vote) v7_6 (((xs).getD (i) Sg.zero)).sig) := mkSg_ok _ (Bf.own o7_6)
    refine H_op (i := 7) (by kernel_rfl) rfl rfl (D_v (R_buildS (vs := [(0, .agg ((((xs).getD (i) Sg.zero)).vote).l.toArray), (1, v7_6)]) (c := (mkSg ((((xs).getD (i) Sg.zero)).vote) v7_6 (((xs).getD (i) Sg.zero)).sig).l) Try.runUnderlying53 places53 Try.zeroValue53 (mapp2 rfl rfl) (fill53 _ o7_6.bs)) ⟨⟨hE, hB2_3, hB6_3, k6_2, trivial⟩, ?_⟩)
    refine H_op (i := 8) (by kernel_rfl) rfl rfl (D_v (R_elAddr (i := i) Try.underlying46 Try.sizeOf53 rfl rfl ov2_2.ls.1 (by (try simp only [List.length_take, List.length_drop, List.length_append, List.length_cons, List.length_nil, List.length_replicate, List.length_set, Nm.b_len, be2_len]); omega)) ⟨⟨hE, hB2_3, hB6_3, k6_2, trivial⟩, ?_⟩)
    refine H_op (i := 9) (by kernel_rfl) rfl rfl (D_stL (C := cS) (i := i) (c := (mkSg ((((xs).getD (i) Sg.zero)).vote) v7_6 (((xs).getD (i) Sg.zero)).sig)) (by decide) Try.sizeOf53 rfl rfl ov2_2 hlo (by (try simp only [List.length_take, List.length_drop, List.length_append, List.length_cons, List.length_nil, List.length_replicate, List.length_set, Nm.b_len, be2_len]); omega) k7_7 (fun w7_9 o7_9 g7_9 f7_9 => ?_))
    replace hE := hE.grown g7_9 (fun k hk => own_ge ov2_2.1 hk)
    replace hB2_3 := hB2_3.grown g7_9 (own_neB ov2_2.1 hB2_3 rfl)
    replace hB6_3 := hB6_3.grown g7_9 (yv2_2_B6_3)
    replace o7_6 := o7_6.grown g7_9 (own_ne o7_6 ov2_2.1 rfl)
    replace k6_2 := k6_2.fb f7_9
    replace k7_7 := k7_7.fb f7_9
    refine ⟨⟨hE, hB2_3, hB6_3, k6_2, trivial⟩, ?_⟩
    refine H_done (by kernel_rfl) ?_
    refine T_bn ?_
    refine T_tn ?_
    refine W_region ?_
    refine L (D_v (R_addN (m := i) (j := 1) q14 rfl (by (try simp only [List.length_take, List.length_drop, List.length_append, List.length_cons, List.length_nil, List.length_replicate, List.length_set, Nm.b_len, be2_len]); omega)) ?_)
    refine L (D_v (R_move rfl) ?_)
    refine S_nil ?_
    refine T_tn ?_
    refine ⟨_, _, ?_, rfl, i + 1, _, rfl, q3, q12, q13, rfl, hE, hB2_3, o7_9, ?_, ?_, ?_⟩
    all_goals first | omega | (simp only [List.length_set]; exact hyl) | exact fillp hyp hyl lk rfl
  ·
    obtain rfl : i = xs.length := by have h9 := of_decide_eq_false c1; omega
    refine wp_exit ?_
    refine T_te ?_
    refine T_te ?_
    refine T_be ?_
    refine T_tn ?_
    refine wp_seq ?_
    refine W_region ?_
    refine L (D_v (R_load Try.isAgg46 hB2_3 q3 rfl) ?_)
    refine L (D_v (R_mkI Try.underlying46 rfl) ?_)
    refine L (D_v (R_mkF1 q3) ?_)
    refine L (D_callS (R_callF Try.call95 rfl rfl) (sort46 ov2_2 hlo hB2_3 (by omega)) (fun w6_3 p6_3 => ?_))
    obtain ⟨g6_3, f6_3, zs6_3, o6_3, hzl, hzm, hzs⟩ := p6_3
    replace hE := hE.grown g6_3 (fun k hk => own_ge ov2_2.1 hk)
    replace hB2_3 := hB2_3.grown g6_3 (own_neB ov2_2.1 hB2_3 rfl)
    refine S_nil ?_
    refine T_tn ?_
    refine wp_seq ?_
    refine W_region ?_
    refine L (D_v (R_assign rfl) ?_)
    refine S_nil ?_
    refine T_tn ?_
    refine wp_seq ?_
    refine wp_seq ?_
    refine W_region ?_
    refine L (D_v (R_load Try.isAgg46 hB2_3 q3 rfl) ?_)
    refine L (D_v (R_len Try.underlying46 rfl o6_3.ls.1) ?_)
    refine L (D_v (R_move rfl) ?_)
    refine S_nil ?_
    refine T_tn ?_
    refine wp_block ?_
    refine W_loop (fun mz g W => ∃ (k : Nat) (us : List Sg) (r6 : Value), mz = zs6_3.length - k ∧ g 3 = .pointer (some ⟨aB2_3, 0, none⟩) ∧ g 6 = r6 ∧ g 33 = v2_2 ∧ g 34 = i64 (((zs6_3).length : Nat) : Int) ∧ g 35 = i64 ((k : Nat) : Int) ∧ Ext w W ∧ Blk W aB2_3 [v2_2] 46 ∧ Ow cS lo w.heap.size W v2_2 zs6_3 ∧ Ow cS lo w.heap.size W r6 us ∧ (∀ k, Value.ownBlock v2_2 = some k → Value.ownBlock r6 ≠ some k) ∧ k ≤ zs6_3.length ∧ us = ddn zs6_3 k) ⟨0, [], _, rfl, q3, rfl, rfl, rfl, rfl, hE, hB2_3, o6_3, (Ow.nil cS lo _ _), (fun k _ h => nomatch (show (none : Option Nat) = some _ from h)), (Nat.zero_le _), rfl⟩ ?_
    rintro mz f9 w9l ⟨k, us, r6, hm, q3, q6, q33, q34, q35, hE, hB2_3, ov2_2, or6, zv2_2_r6, hk, hu⟩
    have hul := ddn_len zs6_3 k
    rw [← hu] at hul
    refine wp_seq ?_
    refine W_region ?_
    refine L (D_v (R_lssI q35 q34) ?_)
    refine S_nil ?_
    refine T_tn ?_
    refine wp_seq ?_
    refine W_if rfl (fun c2 => ?_) (fun c2 => ?_)
    ·
      have lk : k < zs6_3.length := by simp at c2; omega
      refine wp_skip ?_
      refine T_tn ?_
      refine wp_seq ?_
      refine wp_block ?_
      refine wp_seq ?_
      refine W_region ?_
      refine L (D_v (R_move q35) ?_)
      refine L (D_v (R_elAddr (i := k) Try.underlying46 Try.sizeOf53 q33 q35 ov2_2.ls.1 (by (try simp only [List.length_take, List.length_drop, List.length_append, List.length_cons, List.length_nil, List.length_replicate, List.length_set, Nm.b_len, be2_len]); omega)) ?_)
      have k11_2 := (ov2_2.ls).get (getD_some (d := Sg.zero) (by (try simp only [List.length_take, List.length_drop, List.length_append, List.length_cons, List.length_nil, List.length_replicate, List.length_set, Nm.b_len, be2_len]); omega))
      refine L (D_v (R_ldL (C := cS) (i := k) (y := ((zs6_3).getD (k) Sg.zero)) Try.isAgg53 Try.sizeOf53 rfl ov2_2.ls (getD_some (d := Sg.zero) (by (try simp only [List.length_take, List.length_drop, List.length_append, List.length_cons, List.length_nil, List.length_replicate, List.length_set, Nm.b_len, be2_len]); omega))) ?_)
      refine L (D_alloc (c := (Sg.zero).l) Try.zeroValue53 rfl (fun aB11_3 w11_3 e11_3 gB11_3 hB11_3 => ?_))
      have lB11_3 := Nat.le_trans hE.size gB11_3
      have nB2_3B11_3 := hB2_3.ne gB11_3
      have yv2_2_B11_3 : Value.ownBlock v2_2 ≠ some aB11_3 := fun hk => absurd (own_lt ov2_2.1 hk) (Nat.not_lt.2 gB11_3)
      have yr6_B11_3 : Value.ownBlock r6 ≠ some aB11_3 := fun hk => absurd (own_lt or6.1 hk) (Nat.not_lt.2 gB11_3)
      replace hE := hE.trans e11_3
      replace hB2_3 := hB2_3.ext e11_3
      replace ov2_2 := ov2_2.ext e11_3
      replace or6 := or6.ext e11_3
      replace k11_2 := k11_2.fb (Fb.ext e11_3)
      refine L (D_v (R_assign rfl) ?_)
      have xov2_2 := yv2_2_B11_3
      have xor6 := yr6_B11_3
      have h0 := hB11_3
      refine L (D_storeA Try.sizeOf53 hB11_3 rfl rfl rfl rfl rfl (l' := (((zs6_3).getD (k) Sg.zero)).l) rfl (fun w11_5 k11_5 hB11_3 => ?_))
      have f11_5 := Fb.kp k11_5 (Nat.le_trans hlo lB11_3) (Blk.notB h0 rfl)
      replace hE := hE.kp k11_5 lB11_3
      replace hB2_3 := hB2_3.kp k11_5 nB2_3B11_3
      replace ov2_2 := ov2_2.kp k11_5 xov2_2 f11_5
      replace or6 := or6.kp k11_5 xor6 f11_5
      replace k11_2 := k11_2.fb f11_5
      refine S_nil ?_
      refine T_tn ?_
      refine wp_seq ?_
      refine W_draw mixed (by kernel_rfl) ?_
      refine Q_v (fun w hw => R_move rfl) ?_
      refine Q_v (fun w hw => R_eqlI rfl rfl) ?_
      refine Q_v (fun w hw => R_move rfl) ?_
      refine Q_g1 rfl rfl (fun hb w hw => R_fieldAddr Try.runUnderlying53 rfl Try.sizeOf26 rfl) ?_
      refine Q_g1 rfl rfl (fun hb w hw => R_loadA (c := ((((zs6_3).getD (k) Sg.zero)).vote).l) Try.isAgg26 Try.sizeOf26 (hB11_3.ext hw) (cgE hb) rfl rfl) ?_
      refine Q_g1 rfl rfl (fun hb w hw => R_load Try.isAgg46 (hB2_3.ext hw) q3 rfl) ?_
      refine Q_g1 rfl rfl (fun hb w hw => R_move rfl) ?_
      refine Q_g1 rfl rfl (fun hb w hw => R_subN (m := k) (j := 1) (cgE hb) rfl (by first | ((try simp only [List.length_take, List.length_drop, List.length_append, List.length_cons, List.length_nil]); omega) | (simp at hb; omega)) (by first | ((try simp only [List.length_take, List.length_drop, List.length_append, List.length_cons, List.length_nil]); omega) | (simp at hb; omega))) ?_
      refine Q_g1 rfl rfl (fun hb w hw => R_elAddr (i := (k - 1)) Try.underlying46 Try.sizeOf53 (cgE hb) (cgE hb) (ov2_2.ls.ext hw).1 (by first | ((try simp only [List.length_take, List.length_drop, List.length_append, List.length_cons, List.length_nil]); omega) | (simp at hb; omega))) ?_
      refine Q_g1 rfl rfl (fun hb w hw => R_fieldEl (k := (k - 1) * 23) Try.runUnderlying53 rfl Try.sizeOf26 (ov2_2.ls.ext hw).1 (lel_ltz (C := cS) (s := 23) rfl (by decide) (getD_some (d := Sg.zero) (by first | ((try simp only [List.length_take, List.length_drop, List.length_append, List.length_cons, List.length_nil]); omega) | (simp at hb; omega)))) (cgE hb)) ?_
      refine Q_g1 rfl rfl (fun hb w hw => R_ldP (C := cS) (i := (k - 1)) (k := 0) (y := ((zs6_3).getD ((k - 1)) Sg.zero)) (c := ((((zs6_3).getD ((k - 1)) Sg.zero)).vote).l) Try.isAgg26 Try.sizeOf26 (cgE hb) (ov2_2.ls.ext hw) (getD_some (d := Sg.zero) (by first | ((try simp only [List.length_take, List.length_drop, List.length_append, List.length_cons, List.length_nil]); omega) | (simp at hb; omega))) (by decide) (by decide) rfl) ?_
      refine Q_g1 rfl rfl (fun hb w hw => R_neqA Try.eqGuardType26 (eq26 ((((zs6_3).getD (k) Sg.zero)).vote) ((((zs6_3).getD ((k - 1)) Sg.zero)).vote) _) (cgE hb) (cgE hb)) ?_
      refine Q_v (fun w hw => R_pickO rfl rfl rfl) ?_
      refine Q_nil (fun w12_99 e12_99 => ?_)
      replace hE := hE.trans e12_99
      replace hB2_3 := hB2_3.ext e12_99
      replace hB11_3 := hB11_3.ext e12_99
      replace ov2_2 := ov2_2.ext e12_99
      replace or6 := or6.ext e12_99
      replace k11_2 := k11_2.fb (Fb.ext e12_99)
      refine T_tn ?_
      refine W_if rfl (fun c3 => ?_) (fun c3 => ?_)
      ·
        have hc9 := c3
        refine W_region ?_
        refine L (D_v (R_move q6) ?_)
        refine L (D_v (R_loadA (c := (((zs6_3).getD (k) Sg.zero)).l) Try.isAgg53 Try.sizeOf53 hB11_3 rfl rfl rfl) ?_)
        refine L (D_buildL1 (C := cS) (lo := lo) (y := ((zs6_3).getD (k) Sg.zero)) Try.underlying46 Try.sizeOf53 Try.zeroValue53 (mapp1 rfl) (by decide) k11_2 (fun v13_2 w13_2 o13_2 e13_2 => ?_))
        have yv13_2_B11_3 : Value.ownBlock v13_2 ≠ some aB11_3 := fun hk => absurd (own_ge o13_2.1 hk) (Nat.not_le.2 hB11_3.lt)
        have zv2_2_v13_2 := own_apart ov2_2.1 o13_2.1
        have zv13_2_v2_2 := fun k hk hk2 => zv2_2_v13_2 k hk2 hk
        have zr6_v13_2 := own_apart or6.1 o13_2.1
        have zv13_2_r6 := fun k hk hk2 => zr6_v13_2 k hk2 hk
        replace o13_2 := o13_2.low hE.size
        replace hE := hE.trans e13_2
        replace hB2_3 := hB2_3.ext e13_2
        replace hB11_3 := hB11_3.ext e13_2
        replace ov2_2 := ov2_2.ext e13_2
        replace or6 := or6.ext e13_2
        replace k11_2 := k11_2.fb (Fb.ext e13_2)
        refine L (D_appendL elt53 Try.underlying46 rfl rfl or6 hlo o13_2.ls (by (try simp only [List.length_take, List.length_drop, List.length_append, List.length_cons, List.length_nil, List.length_replicate, List.length_set, Nm.b_len, be2_len]); omega) (by (try simp only [List.length_take, List.length_drop, List.length_append, List.length_cons, List.length_nil, List.length_replicate, List.length_set, Nm.b_len, be2_len]); omega) hE.size (fun v13_3 w13_3 o13_3 g13_3 f13_3 sv13_3 => ?_))
        have yv13_3_B11_3 : Value.ownBlock v13_3 ≠ some aB11_3 := fun hk => (sv13_3 _ hk).elim yr6_B11_3 (fun h => absurd h (Nat.not_le.2 hB11_3.lt))
        have zv2_2_v13_3 : ∀ k, Value.ownBlock v2_2 = some k → Value.ownBlock v13_3 ≠ some k := fun k hk2 hk => (sv13_3 _ hk).elim (fun h => zv2_2_r6 k hk2 h) (fun h => absurd h (Nat.not_le.2 (own_lt ov2_2.1 hk2)))
        have zv13_3_v2_2 := fun k hk hk2 => zv2_2_v13_3 k hk2 hk
        have zv13_2_v13_3 : ∀ k, Value.ownBlock v13_2 = some k → Value.ownBlock v13_3 ≠ some k := fun k hk2 hk => (sv13_3 _ hk).elim (fun h => zv13_2_r6 k hk2 h) (fun h => absurd h (Nat.not_le.2 (own_lt o13_2.1 hk2)))
        have zv13_3_v13_2 := fun k hk hk2 => zv13_2_v13_3 k hk2 hk
        replace hE := hE.grown g13_3 (fun k hk => own_ge or6.1 hk)
        replace hB2_3 := hB2_3.grown g13_3 (own_neB or6.1 hB2_3 rfl)
        replace hB11_3 := hB11_3.grown g13_3 (yr6_B11_3)
        replace ov2_2 := ov2_2.grown g13_3 (zv2_2_r6) f13_3
        replace o13_2 := o13_2.grown g13_3 (zv13_2_r6) f13_3
        replace k11_2 := k11_2.fb f13_3
        refine L (D_v (R_assign rfl) ?_)
        refine S_nil ?_
        refine T_bn ?_
        refine T_tn ?_
        refine W_region ?_
        refine L (D_v (R_addN (m := k) (j := 1) q35 rfl (by (try simp only [List.length_take, List.length_drop, List.length_append, List.length_cons, List.length_nil, List.length_replicate, List.length_set, Nm.b_len, be2_len]); omega)) ?_)
        refine L (D_v (R_move rfl) ?_)
        refine S_nil ?_
        refine T_tn ?_
        refine ⟨_, _, ?_, rfl, k + 1, _, _, rfl, q3, rfl, q33, q34, rfl, hE, hB2_3, ov2_2, o13_3, zv2_2_v13_3, ?_, ?_⟩
        all_goals first | omega | exact ddn_y hu (by (try simp at hc9); first | exact hc9 | omega) | exact ddn_n hu (by (try simp at hc9); first | exact hc9 | (simp; exact hc9))
      ·
        have hc9 := c3
        refine wp_skip ?_
        refine T_bn ?_
        refine T_tn ?_
        refine W_region ?_
        refine L (D_v (R_addN (m := k) (j := 1) q35 rfl (by (try simp only [List.length_take, List.length_drop, List.length_append, List.length_cons, List.length_nil, List.length_replicate, List.length_set, Nm.b_len, be2_len]); omega)) ?_)
        refine L (D_v (R_move rfl) ?_)
        refine S_nil ?_
        refine T_tn ?_
        refine ⟨_, _, ?_, rfl, k + 1, _, _, rfl, q3, q6, q33, q34, rfl, hE, hB2_3, ov2_2, or6, zv2_2_r6, ?_, ?_⟩
        all_goals first | omega | exact ddn_y hu (by (try simp at hc9); first | exact hc9 | omega) | exact ddn_n hu (by (try simp at hc9); first | exact hc9 | (simp; exact hc9))
    ·
      obtain rfl : k = zs6_3.length := by have h9 := of_decide_eq_false c2; omega
      refine wp_exit ?_
      refine T_te ?_
      refine T_te ?_
      refine T_be ?_
      refine T_tn ?_
      refine wp_seq ?_
      refine W_region ?_
      refine L (D_v (R_move q6) ?_)
      refine L (D_v (R_assign rfl) ?_)
      refine S_nil ?_
      refine T_tn ?_
      refine wp_ret ?_
      refine ret1 (v := r6) rfl rfl ⟨_, rfl, hE, ?_⟩
      exact ⟨_, or6, zs6_3, by omega, fun p => by rw [hzm, show ys.map Sg.p = xs.map Sg.p from by rw [List.take_of_length_le (by omega), List.take_of_length_le (by omega)] at hyp; exact hyp], hzs, hu⟩
end Go.Proofs.Yteeopgpgbdhmhaa
namespace Go.Proofs.Yteeopgpgbdhmhaa
open Go.RowKit Go.Lib
set_option linter.unusedVariables false
def sameS (a b : Pv) : Bool := decide (a.1 = b.1) && decide (a.2 = b.2)
end Go.Proofs.Yteeopgpgbdhmhaa
namespace Go.Proofs.Yteeopgpgbdhmhaa
open Go.RowKit
set_option linter.unusedVariables false
set_option linter.unusedSimpArgs false
attribute [local irreducible] wpList wpO H wpQuiet wpStill Code.wp Exit.then Exit.inBlock bodyPost Code.rounds Calls valid lessV hless num between
set_option maxRecDepth 4000 in
set_option maxHeartbeats 1000000 in
theorem c55 (x y : Sg) (w : World) (hx : x.okf w.heap.size w) (hy : y.okf w.heap.size w) : Calls Try.prog 55 [x.v, y.v].toArray w (Ret w (.bool (sameS x.p y.p))) := by
  refine enter Try.func55 Try.ntmps55 rfl rfl ?_
  have hE := Ext.refl w
  refine wp_seq ?_
  refine W_region ?_
  refine L (D_box (c := (x).l) (rfl) (fun aB1_0 w1_0 e1_0 gB1_0 hB1_0 => ?_))
  have lB1_0 := Nat.le_trans hE.size gB1_0
  replace hE := hE.trans e1_0
  refine L (D_box (c := (y).l) (rfl) (fun aB1_1 w1_1 e1_1 gB1_1 hB1_1 => ?_))
  have lB1_1 := Nat.le_trans hE.size gB1_1
  have nB1_0B1_1 := hB1_0.ne gB1_1
  replace hE := hE.trans e1_1
  replace hB1_0 := hB1_0.ext e1_1
  refine L (D_v (R_assign rfl) ?_)
  refine S_nil ?_
  refine T_tn ?_
  refine wp_seq ?_
  refine W_region ?_
  refine L (D_v (R_fieldAddr Try.runUnderlying53 rfl Try.sizeOf26 rfl) ?_)
  refine L (D_v (R_loadA (c := ((x).vote).l) Try.isAgg26 Try.sizeOf26 hB1_0 rfl rfl rfl) ?_)
  refine L (D_v (R_fieldAddr Try.runUnderlying53 rfl Try.sizeOf26 rfl) ?_)
  refine L (D_v (R_loadA (c := ((y).vote).l) Try.isAgg26 Try.sizeOf26 hB1_1 rfl rfl rfl) ?_)
  refine L (D_v (R_eqlA Try.eqGuardType26 (eq26 ((x).vote) ((y).vote) _) rfl rfl) ?_)
  refine L (D_v (R_move rfl) ?_)
  refine L (D_g1 rfl rfl (fun hb => R_fieldAddr Try.runUnderlying53 rfl Try.sizeOf31 rfl) ?_)
  refine L (D_g1 rfl rfl (fun hb => R_load Try.isAgg31 hB1_0 (cgE hb) rfl) ?_)
  refine L (D_g1 rfl rfl (fun hb => R_str (b := (x).sig) (cgE hb) (hx.fb (Fb.ext hE)).bs) ?_)
  refine L (D_g1 rfl rfl (fun hb => R_fieldAddr Try.runUnderlying53 rfl Try.sizeOf31 rfl) ?_)
  refine L (D_g1 rfl rfl (fun hb => R_load Try.isAgg31 hB1_1 (cgE hb) rfl) ?_)
  refine L (D_g1 rfl rfl (fun hb => R_str (b := (y).sig) (cgE hb) (hy.fb (Fb.ext hE)).bs) ?_)
  refine L (D_g1 rfl rfl (fun hb => R_eqlStr (a := (x).sig) (b := (y).sig) (cgE hb) (cgE hb)) ?_)
  refine L (D_v (R_pickA rfl rfl rfl) ?_)
  refine L (D_v (R_assign rfl) ?_)
  refine S_nil ?_
  refine T_tn ?_
  refine wp_ret ?_
  refine ret1 (v := .bool _) rfl rfl ⟨?_, hE⟩
  rfl
end Go.Proofs.Yteeopgpgbdhmhaa
namespace Go.Proofs.Yteeopgpgbdhmhaa
open Go.RowKit Go.Lib
set_option linter.unusedVariables false
theorem lessP_V {x y : Pv} (h : lessP x y = false) : lessV x.1 y.1 = false := by
  by_cases e : x.1 = y.1
  · rw [e]; exact less_irr _
  · rw [lessP_ne e] at h; exact h
theorem srt_at {zs : List Sg} (h : srtL zs) {i j : Nat} (hij : i < j) (hj : j < zs.length) : lessP (zs.getD j Sg.zero).p (zs.getD i Sg.zero).p = false :=
  h i j _ _ hij (getD_some (by omega)) (getD_some hj)
theorem srt_step {zs : List Sg} (h : srtL zs) {i k : Nat} (hik : i < k) (hk : k < zs.length) (hn : (zs.getD k Sg.zero).vote ≠ (zs.getD (k - 1) Sg.zero).vote) : lessV (zs.getD i Sg.zero).vote (zs.getD k Sg.zero).vote = true := by
  have h1 : lessV (zs.getD k Sg.zero).vote (zs.getD i Sg.zero).vote = false := lessP_V (srt_at h hik hk)
  have h2 : lessV (zs.getD k Sg.zero).vote (zs.getD (k - 1) Sg.zero).vote = false := lessP_V (srt_at h (by omega) hk)
  by_cases e : (zs.getD i Sg.zero).vote = (zs.getD k Sg.zero).vote
  · exfalso
    by_cases e2 : i = k - 1
    · subst e2; exact hn e.symm
    · have h3 : lessV (zs.getD (k - 1) Sg.zero).vote (zs.getD i Sg.zero).vote = false := lessP_V (srt_at h (by omega) (by omega))
      rw [e] at h3
      rcases less_total hn with h4 | h4
      · rw [h4] at h2; cases h2
      · rw [h4] at h3; cases h3
  · rcases less_total e with h4 | h4
    · exact h4
    · rw [h4] at h1; cases h1
theorem ddn_inv {zs : List Sg} (h : srtL zs) : ∀ k, k ≤ zs.length → asc ((ddn zs k).map Sg.p) ∧ (∀ y ∈ ddn zs k, ∃ i, i < k ∧ y = zs.getD i Sg.zero) ∧ (∀ i, i < k → ∃ j, j ≤ i ∧ zs.getD j Sg.zero ∈ ddn zs k ∧ (zs.getD j Sg.zero).vote = (zs.getD i Sg.zero).vote)
  | 0, _ => ⟨List.Pairwise.nil, fun y hy => by simp [ddn] at hy, fun i hi => by omega⟩
  | k + 1, hk => by
    obtain ⟨h1, h2, h3⟩ := ddn_inv h k (by omega)
    by_cases hc : k = 0 ∨ (zs.getD k Sg.zero).vote ≠ (zs.getD (k - 1) Sg.zero).vote
    · rw [← ddn_y rfl hc]
      refine ⟨?_, fun y hy => ?_, fun i hi => ?_⟩
      · rw [List.map_append]
        refine List.pairwise_append.2 ⟨h1, by simp, fun a ha b hb => ?_⟩
        obtain ⟨y, hy, rfl⟩ := List.mem_map.1 ha
        obtain ⟨i, hi, rfl⟩ := h2 y hy
        rw [List.map_singleton, List.mem_singleton] at hb
        subst hb
        rcases hc with hc | hc
        · omega
        · exact srt_step h hi (by omega) hc
      · rcases List.mem_append.1 hy with hy | hy
        · obtain ⟨i, hi, e⟩ := h2 y hy; exact ⟨i, by omega, e⟩
        · rw [List.mem_singleton] at hy; exact ⟨k, by omega, hy⟩
      · by_cases hik : i < k
        · obtain ⟨j, hj, hm, e⟩ := h3 i hik; exact ⟨j, hj, List.mem_append_left _ hm, e⟩
        · obtain rfl : i = k := by omega
          exact ⟨i, Nat.le_refl _, List.mem_append_right _ (List.mem_singleton_self _), rfl⟩
    · rw [← ddn_n (ys := ddn zs k) rfl hc]
      refine ⟨h1, fun y hy => ?_, fun i hi => ?_⟩
      · obtain ⟨i, hi, e⟩ := h2 y hy; exact ⟨i, by omega, e⟩
      · by_cases hik : i < k
        · exact h3 i hik
        · obtain rfl : i = k := by omega
          have hc2 : i ≠ 0 ∧ (zs.getD i Sg.zero).vote = (zs.getD (i - 1) Sg.zero).vote := by
            refine ⟨fun e => hc (.inl e), ?_⟩
            by_cases e : (zs.getD i Sg.zero).vote = (zs.getD (i - 1) Sg.zero).vote
            · exact e
            · exact absurd (.inr e) hc
          obtain ⟨j, hj, hm, e⟩ := h3 (i - 1) (by omega)
          exact ⟨j, by omega, hm, e.trans hc2.2.symm⟩
theorem ddn_can {zs : List Sg} (h : srtL zs) : IsCan (zs.map Sg.p) ((ddn zs zs.length).map Sg.p) := by
  obtain ⟨h1, h2, h3⟩ := ddn_inv h zs.length (Nat.le_refl _)
  refine ⟨h1, fun y hy => ?_, fun x hx => ?_⟩
  · obtain ⟨a, ha, rfl⟩ := List.mem_map.1 hy
    obtain ⟨i, hi, rfl⟩ := h2 a ha
    exact List.mem_map.2 ⟨_, List.mem_of_getElem? (getD_some hi), rfl⟩
  · obtain ⟨a, ha, rfl⟩ := List.mem_map.1 hx
    obtain ⟨i, hi⟩ := List.getElem?_of_mem ha
    have hil := (List.getElem?_eq_some_iff.1 hi).1
    have e1 : zs.getD i Sg.zero = a := by rw [List.getD_eq_getElem?_getD, hi]; rfl
    obtain ⟨j, hj, hm, e⟩ := h3 i hil
    refine ⟨_, List.mem_map.2 ⟨_, hm, rfl⟩, by rw [← e1]; exact e, ?_⟩
    rw [← e1]
    by_cases hij : j = i
    · subst hij; exact ltB_irr _
    · have := srt_at h (show j < i by omega) hil
      rw [lessP_eq (show (zs.getD i Sg.zero).p.1 = (zs.getD j Sg.zero).p.1 from e.symm)] at this
      exact this
/-- Canonical's result holds the canonical list of what went in. -/
theorem can_of {xs zs ys : List Sg} (h : srtL zs) (hm : ∀ p, p ∈ zs.map Sg.p ↔ p ∈ xs.map Sg.p) (hy : ys = ddn zs zs.length) : IsCan (xs.map Sg.p) (ys.map Sg.p) := by
  have := ddn_can h
  subst hy
  exact ⟨this.up, fun y hyy => (hm y).1 (this.sub y hyy), fun x hx => this.all x ((hm x).2 hx)⟩
end Go.Proofs.Yteeopgpgbdhmhaa
namespace Go.Proofs.Yteeopgpgbdhmhaa
open Go.RowKit Go.Lib
set_option linter.unusedVariables false
set_option linter.unusedSimpArgs false
section
variable {P : Program} {ops : Array Oper} {Q : Exit → Act → World → Prop} {K : Act → World → Prop} {n : Nat} {f : Nat → Value} {w : World} {d : Option Tmp} {op : Op} {ty : TypeId} {pos : String} {aft : Array Edge}
/-- A guard that is known to hold is none. -/
theorem D_on {j dj : Nat} {want : Bool} (hj : (ops[j]?).bind (·.dst) = some dj) (hb : ov n f (.tmp dj) = .bool want) (h : wpO P ops Q ⟨d, op, ty, pos, aft, none⟩ K (E n f) w) :
    wpO P ops Q ⟨d, op, ty, pos, aft, some (j, want)⟩ K (E n f) w := by
  have hw : Region.wanted (⟨d, op, ty, pos, aft, some (j, want)⟩ : Oper) (yielded ops (E n f).tmps) = (want == want) := wanted_b rfl hj hb
  simp only [wpO, Region.wanted, if_true] at h
  unfold wpO
  rw [if_pos (by rw [hw]; simp)]
  exact h
/-- A new map: a block that is none of those that were there. -/
theorem D_makeMap {t : TypeId} (k : ∀ g w', Ext w w' → w.heap.size ≤ g → w'.heap[g]? = some (.map #[] 0) → K (E n (upo f d (.map (some g)))) w') :
    wpO P ops Q ⟨d, .makeMap t none, ty, pos, aft, none⟩ K (E n f) w := by
  refine D_v (v := .map (some w.heap.size)) (w' := w.alloc (.map #[] 0)) ?_ (k _ _ (Ext.alloc _ _) (Nat.le_refl _) (by unfold World.alloc; exact Array.getElem?_push_size))
  simp [go_sem, Instr.makeMap]
end
theorem places108 (w : World) : ((#[⟨"seed", 24, 0, false, "", "forkledger/manytime", 0⟩, ⟨"levels", 3, 8, false, "", "forkledger/manytime", 8⟩, ⟨"trees", 106, 9, false, "", "forkledger/manytime", 16⟩] : Array Field).mapM fun (f : Field) => Prod.mk f.offset <$> sizeOf f.type).run Try.prog w = .ok #[(0, 8), (8, 1), (9, 1)] w := by
  simp [Try.sizeOf24, Try.sizeOf3, Try.sizeOf106, go_sem]
theorem fill108 (n : Nm) (l : Int) (m : Option Nat) : Instr.fill ((#[(0, 8), (8, 1), (9, 1)] : Array (Nat × Nat))[·]?) (Nm.zero.l ++ [i64 0, .map none]).toArray [(0, .agg n.l.toArray), (1, i64 l), (2, .map m)] = some (n.l ++ [i64 l, .map m]).toArray := by
  rw [fill_step (off := 0) (size := 8) (c := n.l) rfl rfl rfl (by decide), fill_step (off := 8) (size := 1) (c := [i64 l]) rfl rfl rfl (by simp [Nm.l]), fill_step (off := 9) (size := 1) (c := [.map m]) rfl rfl rfl (by simp [Nm.l]), Instr.fill]
  simp [Nm.l]
theorem two_sig {a b : Vt} {V W : Value} {z : UInt8} : ∀ x ∈ [mkSg a V [], mkSg b W [z]], x.sig.length ≤ 140737488355328 := by
  intro x hx
  rcases List.mem_cons.1 hx with h1 | h1
  · rw [h1]; exact Nat.zero_le _
  · rw [List.mem_singleton.1 h1]; show 1 ≤ _; omega
theorem can_one {a : Vt} {V W : Value} {s : List UInt8} {ys : List Sg} (h : IsCan ([mkSg a V [], mkSg a W s].map Sg.p) (ys.map Sg.p)) : ys.length = 1 := by
  have e1 : (mkSg a V []).p = (a, []) := rfl
  have e2 : (mkSg a W s).p = (a, s) := rfl
  have k : IsCan ([mkSg a V [], mkSg a W s].map Sg.p) [(a, [])] := by
    refine ⟨List.pairwise_singleton _ _, fun y hy => ?_, fun x hx => ⟨(a, []), List.mem_singleton_self _, ?_⟩⟩
    · rw [List.mem_singleton] at hy; subst hy; exact List.mem_cons_self ..
    · simp only [List.map_cons, List.map_nil, List.mem_cons, List.not_mem_nil, or_false, e1, e2] at hx
      rcases hx with rfl | rfl
      · exact ⟨rfl, rfl⟩
      · refine ⟨rfl, ?_⟩
        cases s <;> rfl
  have := IsCan.uniq (fun _ => Iff.rfl) h k
  have h2 := congrArg List.length this
  simpa using h2
section
variable {ρ : Operand → Value} {w : World} {dst : Option Tmp} {ty : TypeId} {pos : String} {aft : Array Edge} {gd : Option (Nat × Bool)}
theorem R_ptrNN {x y : Operand} {a : Addr} {t' : TypeId} (hx : ρ x = .pointer (some a)) (hy : ρ y = .pointer none) : (execOp ρ ⟨dst, .binOp .neq 71 x y t', ty, pos, aft, gd⟩).run Try.prog w = .ok (.value (.bool true)) w := by
  have e : (Op.equalIn Op.maxDepth 71 (.pointer (some a)) (.pointer none)).run Try.prog w = .ok false w := by
    show (Op.equalIn (Op.maxDepth - 1 + 1) 71 (.pointer (some a)) (.pointer none)).run Try.prog w = .ok false w
    simp [Op.equalIn, run_underlying Try.underlying71]
  simp [go_sem, hx, hy, binOp, Op.equal, e]
theorem R_mapNN {x y : Operand} {m : Nat} {t' : TypeId} (hx : ρ x = .map (some m)) (hy : ρ y = .map none) : (execOp ρ ⟨dst, .binOp .neq 106 x y t', ty, pos, aft, gd⟩).run Try.prog w = .ok (.value (.bool true)) w := by
  have hu : ∃ k e, Try.prog.underlying 106 = some (.map k e) := ⟨_, _, Try.underlying106⟩
  obtain ⟨kk, ee, hu⟩ := hu
  have e : (Op.equalIn Op.maxDepth 106 (.map (some m)) (.map none)).run Try.prog w = .ok false w := by
    show (Op.equalIn (Op.maxDepth - 1 + 1) 106 (.map (some m)) (.map none)).run Try.prog w = .ok false w
    simp [Op.equalIn, run_underlying hu]
  simp [go_sem, hx, hy, binOp, Op.equal, e]
end
end Go.Proofs.Yteeopgpgbdhmhaa
namespace Go.Proofs.Yteeopgpgbdhmhaa
open Go.RowKit
set_option linter.unusedVariables false
set_option linter.unusedSimpArgs false
attribute [local irreducible] wpList wpO H wpQuiet wpStill Code.wp Exit.then Exit.inBlock bodyPost Code.rounds Calls valid lessV hless num between
set_option maxRecDepth 4000 in
set_option maxHeartbeats 1000000 in
theorem c60 (n : Nm) (w : World) : Calls Try.prog 60 [n.v, i64 2].toArray w (RetE w fun r w' => ∃ g m, r = .pointer (some ⟨g, 0, none⟩) ∧ w.heap.size ≤ g ∧ Blk w' g ((n).l ++ [i64 (2), .map (some m)]) 108) := by
  refine enter Try.func60 Try.ntmps60 rfl rfl ?_
  have hE := Ext.refl w
  refine wp_seq ?_
  refine W_region ?_
  refine L (D_box (c := (n).l) (rfl) (fun aB1_0 w1_0 e1_0 gB1_0 hB1_0 => ?_))
  have lB1_0 := Nat.le_trans hE.size gB1_0
  replace hE := hE.trans e1_0
  refine L (D_v (R_assign rfl) ?_)
  refine S_nil ?_
  refine T_tn ?_
  refine wp_seq ?_
  refine wp_seq ?_
  refine W_region ?_
  refine L (D_v (R_move rfl) ?_)
  refine L (D_call (R_callF Try.call98 rfl rfl) (c98_2 _) (fun w2_1 e2_1 => ?_))
  replace hE := hE.trans e2_1
  replace hB1_0 := hB1_0.ext e2_1
  refine L (D_v (R_cast (v' := .bool false) (R_eqlI rfl rfl) rfl) ?_)
  refine S_nil ?_
  refine T_tn ?_
  refine W_iff rfl ?_
  refine wp_skip ?_
  refine T_tn ?_
  refine wp_seq ?_
  refine W_region ?_
  refine L (D_v (R_loadA (c := (n).l) Try.isAgg24 Try.sizeOf24 hB1_0 rfl rfl rfl) ?_)
  refine L (D_v (R_move rfl) ?_)
  refine L (D_makeMap (fun m3_2 w3_2 e3_2 gm3_2 hm3_2 => ?_))
  replace hE := hE.trans e3_2
  replace hB1_0 := hB1_0.ext e3_2
  refine L (D_v (R_buildS (vs := [(0, .agg (n).l.toArray), (1, i64 (2)), (2, .map (some m3_2))]) (c := (n).l ++ [i64 (2), .map (some m3_2)]) Try.runUnderlying108 places108 Try.zeroValue108 rfl (fill108 _ _ _)) ?_)
  refine L (D_box (c := (n).l ++ [i64 (2), .map (some m3_2)]) (rfl) (fun aB3_4 w3_4 e3_4 gB3_4 hB3_4 => ?_))
  have lB3_4 := Nat.le_trans hE.size gB3_4
  have nB1_0B3_4 := hB1_0.ne gB3_4
  replace hE := hE.trans e3_4
  replace hB1_0 := hB1_0.ext e3_4
  refine L (D_v (R_assign rfl) ?_)
  refine S_nil ?_
  refine T_tn ?_
  refine wp_ret ?_
  refine ret1 (v := _) rfl rfl ⟨_, rfl, hE, ?_⟩
  exact ⟨aB3_4, _, rfl, lB3_4, hB3_4⟩
set_option maxRecDepth 4000 in
set_option maxHeartbeats 1000000 in
theorem c128 (n : Nm) (m aK : Nat) (w : World) (hTK : Blk w aK ((n).l ++ [i64 (2), .map (some m)]) 108) : Calls Try.prog 128 [.pointer (some ⟨aK, 0, none⟩)].toArray w (Ret w (.bool true)) := by
  refine enter Try.func128 Try.ntmps128 rfl rfl ?_
  have hE := Ext.refl w
  refine wp_seq ?_
  refine W_region ?_
  refine L (D_v (R_assign rfl) ?_)
  refine S_nil ?_
  refine T_tn ?_
  refine wp_seq ?_
  refine W_region ?_
  refine L (D_v (R_move rfl) ?_)
  refine L (D_v (R_ptrNN rfl rfl) ?_)
  refine L (D_v (R_move rfl) ?_)
  refine L (D_on rfl rfl (D_v (R_move rfl) ?_))
  refine L (D_on rfl rfl (D_v (R_nilCheck rfl) ?_))
  refine L (D_on rfl rfl (D_v (R_fieldAddr Try.runUnderlying108 rfl Try.sizeOf106 rfl) ?_))
  refine L (D_on rfl rfl (D_v (R_load Try.isAgg106 hTK rfl rfl) ?_))
  refine L (D_on rfl rfl (D_v (R_mapNN rfl rfl) ?_))
  refine L (D_v (R_cast (v' := .bool true) (R_pick rfl rfl rfl) rfl) ?_)
  refine L (D_v (R_assign rfl) ?_)
  refine S_nil ?_
  refine T_tn ?_
  refine wp_ret ?_
  refine ret1 (v := .bool _) rfl rfl ⟨congrArg (fun b => Ending.returned (Value.bool b)) ?_, hE⟩
  rfl
set_option maxRecDepth 4000 in
set_option maxHeartbeats 1000000 in
theorem c97_n (n : Nm) (m aK : Nat) (x : Nm) (w : World) (hTK : Blk w aK ((n).l ++ [i64 (2), .map (some m)]) 108) : Calls Try.prog 97 [.pointer (some ⟨aK, 0, none⟩), i64 1024, x.v].toArray w (Ret w (.tuple #[.slice none 0 0, .bool false])) := by
  refine enter Try.func97 Try.ntmps97 rfl rfl ?_
  have hE := Ext.refl w
  refine wp_seq ?_
  refine W_region ?_
  refine L (D_box (c := (x).l) (rfl) (fun aB1_0 w1_0 e1_0 gB1_0 hB1_0 => ?_))
  have lB1_0 := Nat.le_trans hE.size gB1_0
  have nKB1_0 := hTK.ne gB1_0
  replace hE := hE.trans e1_0
  replace hTK := hTK.ext e1_0
  refine L (D_v (R_assign rfl) ?_)
  refine L (D_v (R_assign rfl) ?_)
  refine S_nil ?_
  refine T_tn ?_
  refine wp_seq ?_
  refine wp_seq ?_
  refine W_region ?_
  refine L (D_v (R_move rfl) ?_)
  refine L (D_call (R_callF Try.call128 rfl rfl) (c128 (n) m aK _ hTK) (fun w2_1 e2_1 => ?_))
  replace hE := hE.trans e2_1
  replace hTK := hTK.ext e2_1
  replace hB1_0 := hB1_0.ext e2_1
  refine L (D_v (R_not rfl) ?_)
  refine L (D_v (R_move rfl) ?_)
  refine L (D_on rfl rfl (D_v (R_move rfl) ?_))
  refine L (D_on rfl rfl (D_v (R_cast (v' := .bool false) (R_lssI rfl rfl) rfl) ?_))
  refine L (D_v (R_cast (v' := .bool false) (R_pick rfl rfl rfl) rfl) ?_)
  refine L (D_v (R_move rfl) ?_)
  refine L (D_on rfl rfl (D_v (R_move rfl) ?_))
  refine L (D_on rfl rfl (D_v (R_move rfl) ?_))
  refine L (D_on rfl rfl (D_v (R_nilCheck rfl) ?_))
  refine L (D_on rfl rfl (D_v (R_fieldAddr Try.runUnderlying108 rfl Try.sizeOf3 rfl) ?_))
  refine L (D_on rfl rfl (D_v (R_load Try.isAgg3 hTK rfl rfl) ?_))
  refine L (D_on rfl rfl (D_call (R_callF Try.call98 rfl rfl) (c98_2 _) (fun w2_13 e2_13 => ?_)))
  replace hE := hE.trans e2_13
  replace hTK := hTK.ext e2_13
  replace hB1_0 := hB1_0.ext e2_13
  refine L (D_on rfl rfl (D_v (R_cast (v' := .bool true) (R_geqI rfl rfl) rfl) ?_))
  refine L (D_v (R_cast (v' := .bool true) (R_pick rfl rfl rfl) rfl) ?_)
  refine S_nil ?_
  refine T_tn ?_
  refine W_ift rfl ?_
  refine wp_seq ?_
  refine W_region ?_
  refine L (D_v (R_assign rfl) ?_)
  refine L (D_v (R_assign rfl) ?_)
  refine S_nil ?_
  refine T_tn ?_
  refine wp_ret ?_
  refine T_tr ?_
  refine ret2 (v := _) (v2 := .bool _) rfl rfl rfl ⟨?_, hE⟩
  rfl
set_option maxRecDepth 4000 in
set_option maxHeartbeats 1000000 in
theorem c59_n (n : Nm) (m aK : Nat) (x : Vt) (w : World) (hTK : Blk w aK ((n).l ++ [i64 (2), .map (some m)]) 108) : Calls Try.prog 59 [.pointer (some ⟨aK, 0, none⟩), i64 1024, x.v].toArray w (Ret w (.tuple #[Sg.zero.v, .bool false])) := by
  refine enter Try.func59 Try.ntmps59 rfl rfl ?_
  have hE := Ext.refl w
  refine wp_seq ?_
  refine W_region ?_
  refine L (D_box (c := (x).l) (rfl) (fun aB1_0 w1_0 e1_0 gB1_0 hB1_0 => ?_))
  have lB1_0 := Nat.le_trans hE.size gB1_0
  have nKB1_0 := hTK.ne gB1_0
  replace hE := hE.trans e1_0
  replace hTK := hTK.ext e1_0
  refine L (D_alloc (c := (Sg.zero).l) Try.zeroValue53 rfl (fun aB1_1 w1_1 e1_1 gB1_1 hB1_1 => ?_))
  have lB1_1 := Nat.le_trans hE.size gB1_1
  have nKB1_1 := hTK.ne gB1_1
  have nB1_0B1_1 := hB1_0.ne gB1_1
  replace hE := hE.trans e1_1
  replace hTK := hTK.ext e1_1
  replace hB1_0 := hB1_0.ext e1_1
  refine L (D_v (R_assign rfl) ?_)
  refine S_nil ?_
  refine T_tn ?_
  refine wp_seq ?_
  refine wp_seq ?_
  refine W_region ?_
  refine L (D_v (R_loadA (c := (x).l) Try.isAgg26 Try.sizeOf26 hB1_0 rfl rfl rfl) ?_)
  refine L (D_call (R_callF Try.call26 rfl rfl) (c26 (x) _ ) (fun w2_1 e2_1 => ?_))
  replace hE := hE.trans e2_1
  replace hTK := hTK.ext e2_1
  replace hB1_0 := hB1_0.ext e2_1
  replace hB1_1 := hB1_1.ext e2_1
  refine L (D_v (R_not rfl) ?_)
  refine S_nil ?_
  refine T_tn ?_
  refine W_if rfl (fun c1 => ?_) (fun c1 => ?_)
  ·
    refine wp_seq ?_
    refine W_region ?_
    refine L (D_v (R_buildS (c := Sg.zero.l) Try.runUnderlying53 places53 Try.zeroValue53 rfl rfl) ?_)
    have h0 := hB1_1
    refine L (D_storeA Try.sizeOf53 hB1_1 rfl rfl rfl rfl rfl (l' := (Sg.zero).l) rfl (fun w3_1 k3_1 hB1_1 => ?_))
    replace hE := hE.kp k3_1 lB1_1
    refine L (D_v (R_assign rfl) ?_)
    refine S_nil ?_
    refine T_tn ?_
    refine wp_ret ?_
    refine T_tr ?_
    refine retct (c := (Sg.zero).l) (v2 := .bool false) rfl rfl rfl Try.isAgg53 Try.sizeOf53 hB1_1 rfl rfl ⟨?_, hE⟩
    rfl
  ·
    refine wp_skip ?_
    refine T_tn ?_
    refine wp_seq ?_
    refine W_region ?_
    refine L (D_v (R_move rfl) ?_)
    refine L (D_v (R_move rfl) ?_)
    refine L (D_v (R_loadA (c := (x).l) Try.isAgg26 Try.sizeOf26 hB1_0 rfl rfl rfl) ?_)
    refine L (D_call (R_callF Try.call36 rfl rfl) (c36 (x) _) (fun w3_3 e3_3 => ?_))
    replace hE := hE.trans e3_3
    replace hTK := hTK.ext e3_3
    replace hB1_0 := hB1_0.ext e3_3
    replace hB1_1 := hB1_1.ext e3_3
    refine L (D_call (R_callF Try.call97 rfl rfl) (c97_n (n) m aK ((nameV x)) _ hTK) (fun w3_4 e3_4 => ?_))
    replace hE := hE.trans e3_4
    replace hTK := hTK.ext e3_4
    replace hB1_0 := hB1_0.ext e3_4
    replace hB1_1 := hB1_1.ext e3_4
    refine L (D_v (R_move rfl) ?_)
    refine L (D_v (R_extract rfl rfl) ?_)
    refine L (D_v (R_extract rfl rfl) ?_)
    refine L (D_v (R_assign rfl) ?_)
    refine L (D_v (R_assign rfl) ?_)
    refine S_nil ?_
    refine T_tn ?_
    refine wp_seq ?_
    refine wp_seq ?_
    refine W_region ?_
    refine L (D_v (R_move rfl) ?_)
    refine L (D_v (R_not rfl) ?_)
    refine S_nil ?_
    refine T_tn ?_
    refine W_ift rfl ?_
    refine wp_seq ?_
    refine W_region ?_
    refine L (D_v (R_buildS (c := Sg.zero.l) Try.runUnderlying53 places53 Try.zeroValue53 rfl rfl) ?_)
    have h0 := hB1_1
    refine L (D_storeA Try.sizeOf53 hB1_1 rfl rfl rfl rfl rfl (l' := (Sg.zero).l) rfl (fun w5_1 k5_1 hB1_1 => ?_))
    replace hE := hE.kp k5_1 lB1_1
    refine L (D_v (R_assign rfl) ?_)
    refine S_nil ?_
    refine T_tn ?_
    refine wp_ret ?_
    refine T_tr ?_
    refine retct (c := (Sg.zero).l) (v2 := .bool false) rfl rfl rfl Try.isAgg53 Try.sizeOf53 hB1_1 rfl rfl ⟨?_, hE⟩
    rfl
set_option maxRecDepth 4000 in
set_option maxHeartbeats 1000000 in
theorem c53_n (n : Nm) (x : Vt) (w : World) : Calls Try.prog 53 [n.v, i64 1024, x.v].toArray w (Ret w (.tuple #[Sg.zero.v, .bool false])) := by
  refine enter Try.func53 Try.ntmps53 rfl rfl ?_
  have hE := Ext.refl w
  refine wp_seq ?_
  refine W_region ?_
  refine L (D_box (c := (n).l) (rfl) (fun aB1_0 w1_0 e1_0 gB1_0 hB1_0 => ?_))
  have lB1_0 := Nat.le_trans hE.size gB1_0
  replace hE := hE.trans e1_0
  refine L (D_box (c := (x).l) (rfl) (fun aB1_1 w1_1 e1_1 gB1_1 hB1_1 => ?_))
  have lB1_1 := Nat.le_trans hE.size gB1_1
  have nB1_0B1_1 := hB1_0.ne gB1_1
  replace hE := hE.trans e1_1
  replace hB1_0 := hB1_0.ext e1_1
  refine L (D_alloc (c := (Sg.zero).l) Try.zeroValue53 rfl (fun aB1_2 w1_2 e1_2 gB1_2 hB1_2 => ?_))
  have lB1_2 := Nat.le_trans hE.size gB1_2
  have nB1_0B1_2 := hB1_0.ne gB1_2
  have nB1_1B1_2 := hB1_1.ne gB1_2
  replace hE := hE.trans e1_2
  replace hB1_0 := hB1_0.ext e1_2
  replace hB1_1 := hB1_1.ext e1_2
  refine L (D_v (R_assign rfl) ?_)
  refine S_nil ?_
  refine T_tn ?_
  refine wp_seq ?_
  refine W_held (fun W => Ext w W ∧ Blk W aB1_0 (n).l 24 ∧ Blk W aB1_1 (x).l 26 ∧ True) mixed (fun w2_99 e2_99 => ?_)
  replace hE := hE.trans e2_99
  replace hB1_0 := hB1_0.ext e2_99
  replace hB1_1 := hB1_1.ext e2_99
  replace hB1_2 := hB1_2.ext e2_99
  refine H_take (i := 0) rfl (by kernel_rfl) (by kernel_rfl) (by kernel_rfl) rfl (pq_then pq_body) ⟨hE, hB1_0, hB1_1, trivial⟩ rfl (fun w hw => R_loadA (c := (n).l) Try.isAgg24 Try.sizeOf24 hw.2.1 rfl rfl rfl) ?_
  refine H_take (i := 2) rfl (by kernel_rfl) (by kernel_rfl) (by kernel_rfl) rfl (pq_then pq_body) ⟨hE, hB1_0, hB1_1, trivial⟩ rfl (fun w hw => R_move rfl) ?_
  refine H_take (i := 3) rfl (by kernel_rfl) (by kernel_rfl) (by kernel_rfl) rfl (pq_then pq_body) ⟨hE, hB1_0, hB1_1, trivial⟩ rfl (fun w hw => R_loadA (c := (x).l) Try.isAgg26 Try.sizeOf26 hw.2.2.1 rfl rfl rfl) ?_
  refine H_op (i := 1) (by kernel_rfl) rfl rfl (D_callE (R_callF Try.call60 rfl rfl) (c60 (n) _) (fun v2_1 w2_1 e2_1 p2_1 => ?_))
  obtain ⟨aK2_1, m2_1, rfl, gK2_1, hK2_1⟩ := p2_1
  have lK2_1 := Nat.le_trans hE.size gK2_1
  have nB1_0K2_1 := hB1_0.ne gK2_1
  have nB1_1K2_1 := hB1_1.ne gK2_1
  have nB1_2K2_1 := hB1_2.ne gK2_1
  replace hE := hE.trans e2_1
  replace hB1_0 := hB1_0.ext e2_1
  replace hB1_1 := hB1_1.ext e2_1
  replace hB1_2 := hB1_2.ext e2_1
  refine ⟨⟨hE, hB1_0, hB1_1, trivial⟩, ?_⟩
  refine H_op (i := 4) (by kernel_rfl) rfl rfl (D_call (R_callF Try.call59 rfl rfl) (c59_n (n) m2_1 aK2_1 (x) _ hK2_1) (fun w2_4 e2_4 => ?_))
  replace hE := hE.trans e2_4
  replace hB1_0 := hB1_0.ext e2_4
  replace hB1_1 := hB1_1.ext e2_4
  replace hB1_2 := hB1_2.ext e2_4
  replace hK2_1 := hK2_1.ext e2_4
  refine ⟨⟨hE, hB1_0, hB1_1, trivial⟩, ?_⟩
  refine H_take (i := 5) rfl (by kernel_rfl) (by kernel_rfl) (by kernel_rfl) rfl (pq_then pq_body) ⟨hE, hB1_0, hB1_1, trivial⟩ rfl (fun w hw => R_extract rfl rfl) ?_
  refine H_take (i := 6) rfl (by kernel_rfl) (by kernel_rfl) (by kernel_rfl) rfl (pq_then pq_body) ⟨hE, hB1_0, hB1_1, trivial⟩ rfl (fun w hw => R_extract rfl rfl) ?_
  have h0 := hB1_2
  refine H_op (i := 7) (by kernel_rfl) rfl rfl (D_storeA Try.sizeOf53 hB1_2 rfl rfl rfl rfl rfl (l' := (Sg.zero).l) rfl (fun w2_7 k2_7 hB1_2 => ?_))
  replace hE := hE.kp k2_7 lB1_2
  replace hB1_0 := hB1_0.kp k2_7 nB1_0B1_2
  replace hB1_1 := hB1_1.kp k2_7 nB1_1B1_2
  replace hK2_1 := hK2_1.kp k2_7 nB1_2K2_1.symm
  refine ⟨⟨hE, hB1_0, hB1_1, trivial⟩, ?_⟩
  refine H_take (i := 8) rfl (by kernel_rfl) (by kernel_rfl) (by kernel_rfl) rfl (pq_then pq_body) ⟨hE, hB1_0, hB1_1, trivial⟩ rfl (fun w hw => R_assign rfl) ?_
  refine H_done (by kernel_rfl) ?_
  refine T_tn ?_
  refine wp_ret ?_
  refine retct (c := (Sg.zero).l) (v2 := .bool false) rfl rfl rfl Try.isAgg53 Try.sizeOf53 hB1_2 rfl rfl ⟨?_, hE⟩
  rfl
set_option maxRecDepth 4000 in
set_option maxHeartbeats 1000000 in
theorem c56  (w : World) : Calls Try.prog 56 [].toArray w (Ret w (.bool true)) := by
  refine enter Try.func56 Try.ntmps56 rfl rfl ?_
  have hE := Ext.refl w
  refine wp_seq ?_
  refine W_region ?_
  refine L (D_v (R_assign rfl) ?_)
  refine S_nil ?_
  refine T_tn ?_
  refine wp_seq ?_
  refine W_region ?_
  refine L (D_alloc (c := (Nm.zero).l) Try.zeroValue24 rfl (fun aB2_0 w2_0 e2_0 gB2_0 hB2_0 => ?_))
  have lB2_0 := Nat.le_trans hE.size gB2_0
  replace hE := hE.trans e2_0
  refine S_nil ?_
  refine T_tn ?_
  refine wp_seq ?_
  refine W_region ?_
  refine L (D_v (R_buildS (vs := [(0, i64 (3)), (2, i64 (1)), (4, i64 (1))]) (c := ((⟨3, 0, 1, 0, 1, 0, Nm.zero, Nm.zero⟩ : Vt)).l) Try.runUnderlying26 places26 Try.zeroValue26 rfl rfl) ?_)
  refine L (D_alloc (c := (Vt.zero).l) Try.zeroValue26 rfl (fun aB3_1 w3_1 e3_1 gB3_1 hB3_1 => ?_))
  have lB3_1 := Nat.le_trans hE.size gB3_1
  have nB2_0B3_1 := hB2_0.ne gB3_1
  replace hE := hE.trans e3_1
  replace hB2_0 := hB2_0.ext e3_1
  have h0 := hB3_1
  refine L (D_storeA Try.sizeOf26 hB3_1 rfl rfl rfl rfl rfl (l' := ((⟨3, 0, 1, 0, 1, 0, Nm.zero, Nm.zero⟩ : Vt)).l) rfl (fun w3_2 k3_2 hB3_1 => ?_))
  replace hE := hE.kp k3_2 lB3_1
  replace hB2_0 := hB2_0.kp k3_2 nB2_0B3_1
  refine S_nil ?_
  refine T_tn ?_
  refine wp_seq ?_
  refine W_region ?_
  refine L (D_v (R_loadA (c := (Nm.zero).l) Try.isAgg24 Try.sizeOf24 hB2_0 rfl rfl rfl) ?_)
  refine L (D_v (R_loadA (c := ((⟨3, 0, 1, 0, 1, 0, Nm.zero, Nm.zero⟩ : Vt)).l) Try.isAgg26 Try.sizeOf26 hB3_1 rfl rfl rfl) ?_)
  refine L (D_call (R_callF Try.call53 rfl rfl) (c53_n (Nm.zero) ((⟨3, 0, 1, 0, 1, 0, Nm.zero, Nm.zero⟩ : Vt)) _) (fun w4_2 e4_2 => ?_))
  replace hE := hE.trans e4_2
  replace hB2_0 := hB2_0.ext e4_2
  replace hB3_1 := hB3_1.ext e4_2
  refine L (D_v (R_move rfl) ?_)
  refine L (D_v (R_extract rfl rfl) ?_)
  refine L (D_v (R_extract rfl rfl) ?_)
  refine L (D_alloc (c := (Sg.zero).l) Try.zeroValue53 rfl (fun aB4_6 w4_6 e4_6 gB4_6 hB4_6 => ?_))
  have lB4_6 := Nat.le_trans hE.size gB4_6
  have nB2_0B4_6 := hB2_0.ne gB4_6
  have nB3_1B4_6 := hB3_1.ne gB4_6
  replace hE := hE.trans e4_6
  replace hB2_0 := hB2_0.ext e4_6
  replace hB3_1 := hB3_1.ext e4_6
  have h0 := hB4_6
  refine L (D_storeA Try.sizeOf53 hB4_6 rfl rfl rfl rfl rfl (l' := (Sg.zero).l) rfl (fun w4_7 k4_7 hB4_6 => ?_))
  replace hE := hE.kp k4_7 lB4_6
  replace hB2_0 := hB2_0.kp k4_7 nB2_0B4_6
  replace hB3_1 := hB3_1.kp k4_7 nB3_1B4_6
  refine L (D_v (R_assign rfl) ?_)
  refine S_nil ?_
  refine T_tn ?_
  refine wp_seq ?_
  refine W_region ?_
  refine L (D_v (R_move rfl) ?_)
  refine L (D_v (R_not rfl) ?_)
  refine L (D_v (R_move rfl) ?_)
  refine L (D_v (R_cast (v' := .bool true) (R_pick rfl rfl rfl) rfl) ?_)
  refine L (D_v (R_move rfl) ?_)
  refine L (D_on rfl rfl (D_v (R_loadA (c := ((⟨3, 0, 1, 0, 1, 0, Nm.zero, Nm.zero⟩ : Vt)).l) Try.isAgg26 Try.sizeOf26 hB3_1 rfl rfl rfl) ?_))
  refine L (D_on rfl rfl (D_v (R_buildS (vs := [(0, .agg ((⟨3, 0, 1, 0, 1, 0, Nm.zero, Nm.zero⟩ : Vt)).l.toArray)]) (c := (mkSg ((⟨3, 0, 1, 0, 1, 0, Nm.zero, Nm.zero⟩ : Vt)) (.slice none 0 0) []).l) Try.runUnderlying53 places53 Try.zeroValue53 (mapp1 rfl) (fill53z _)) ?_))
  refine L (D_on rfl rfl (D_v (R_loadA (c := ((⟨3, 0, 1, 0, 1, 0, Nm.zero, Nm.zero⟩ : Vt)).l) Try.isAgg26 Try.sizeOf26 hB3_1 rfl rfl rfl) ?_))
  refine L (D_on rfl rfl (D_buildB (vs := [(0, u8 (1))]) (b := [1]) Try.underlying31 Try.sizeOf5 Try.zeroValue5 rfl (fillB1 _) rfl rfl rfl (fun v5_8 w5_8 o5_8 e5_8 => ?_)))
  replace o5_8 := o5_8.lo hE.size
  replace hE := hE.trans e5_8
  replace hB3_1 := hB3_1.ext e5_8
  have k5_9 : Sg.okf w.heap.size w5_8 (mkSg ((⟨3, 0, 1, 0, 1, 0, Nm.zero, Nm.zero⟩ : Vt)) v5_8 [1]) := mkSg_ok _ (Bf.own o5_8)
  refine L (D_on rfl rfl (D_v (R_buildS (vs := [(0, .agg ((⟨3, 0, 1, 0, 1, 0, Nm.zero, Nm.zero⟩ : Vt)).l.toArray), (1, v5_8)]) (c := (mkSg ((⟨3, 0, 1, 0, 1, 0, Nm.zero, Nm.zero⟩ : Vt)) v5_8 [1]).l) Try.runUnderlying53 places53 Try.zeroValue53 (mapp2 rfl rfl) (fill53 _ o5_8.bs)) ?_))
  refine L (D_on rfl rfl (D_buildL2 (C := cS) (lo := w.heap.size) (y := (mkSg ((⟨3, 0, 1, 0, 1, 0, Nm.zero, Nm.zero⟩ : Vt)) (.slice none 0 0) [])) (y2 := (mkSg ((⟨3, 0, 1, 0, 1, 0, Nm.zero, Nm.zero⟩ : Vt)) v5_8 [1])) Try.underlying46 Try.sizeOf53 Try.zeroValue53 (mapp2 rfl rfl) (by decide) (mkSg_ok _ (Bf.nil _ _)) k5_9 (fun v5_10 w5_10 o5_10 e5_10 => ?_)))
  replace o5_10 := o5_10.low hE.size
  replace hE := hE.trans e5_10
  replace hB3_1 := hB3_1.ext e5_10
  replace o5_8 := o5_8.ext e5_10
  replace k5_9 := k5_9.fb (Fb.ext e5_10)
  refine L (D_on rfl rfl (D_callE (R_callF Try.call57 rfl rfl) (c57 w.heap.size v5_10 ([(mkSg ((⟨3, 0, 1, 0, 1, 0, Nm.zero, Nm.zero⟩ : Vt)) (.slice none 0 0) []), (mkSg ((⟨3, 0, 1, 0, 1, 0, Nm.zero, Nm.zero⟩ : Vt)) v5_8 [1])]) _ (Nat.le_trans (Nat.le_refl _) hE.size) (by (try simp only [List.length_take, List.length_drop, List.length_append, List.length_cons, List.length_nil, List.length_replicate, List.length_set, Nm.b_len, be2_len]); omega) o5_10.ls two_sig) (fun v5_11 w5_11 e5_11 p5_11 => ?_)))
  obtain ⟨y5_11, o5_11, zz5_11, za5_11, zb5_11, zc5_11, zd5_11⟩ := p5_11
  have zv5_10_v5_11 := own_apart o5_10.1 o5_11.1
  have zv5_11_v5_10 := fun k hk hk2 => zv5_10_v5_11 k hk2 hk
  replace o5_11 := o5_11.low hE.size
  replace hE := hE.trans e5_11
  replace hB3_1 := hB3_1.ext e5_11
  replace o5_8 := o5_8.ext e5_11
  replace o5_10 := o5_10.ext e5_11
  replace k5_9 := k5_9.fb (Fb.ext e5_11)
  refine L (D_on rfl rfl (D_v (R_len Try.underlying46 rfl o5_11.ls.1) ?_))
  refine L (D_on rfl rfl (D_v (R_eqlI rfl rfl) ?_))
  refine L (D_v (R_pick rfl rfl rfl) ?_)
  refine L (D_v (R_assign rfl) ?_)
  refine S_nil ?_
  refine T_tn ?_
  refine wp_ret ?_
  have hcan := can_of zc5_11 zb5_11 zd5_11
  have hone := can_one hcan
  refine ret1 (v := .bool _) rfl rfl ⟨congrArg (fun b => Ending.returned (Value.bool b)) ?_, hE⟩
  simp [hone]
end Go.Proofs.Yteeopgpgbdhmhaa
namespace Go.Proofs.Yteeopgpgbdhmhaa
open Go.RowKit
set_option linter.unusedVariables false
def startN (seed : Nm) (c : Nat) : Nm := hashB (32 :: (seed.b ++ [by8 ((c : Nat) : Int)]))
def oneL (seed : Nm) : List Nm := (List.range 18).map fun c => wk c 15 0 (startN seed c)
def onePub (seed : Nm) : Nm := pubE (oneL seed)
def oneSig (seed m : Nm) : List Nm := (List.range 18).map fun c => wk c ((digits m).getD c 0) 0 (startN seed c)
def keyN (seed : Nm) (lv t j : Nat) : Nm := hashB (48 :: (seed.b ++ [by8 ((lv : Nat) : Int)] ++ [by8 (((t : Nat) : Int) / 2 ^ 8), by8 ((t : Nat) : Int)] ++ [by8 ((j : Nat) : Int)]))
def leavesN (seed : Nm) (lv t : Nat) : List Nm := (List.range 32).map fun j => onePub (keyN seed lv t j)
def mroot : Nat → List Nm → Nm
  | 0, _ => Nm.zero
  | f + 1, l => if l.length = 0 then hashB [16] else if l.length = 1 then leafH (l.getD 0 Nm.zero) else pairH 18 (mroot f (l.take (split l.length))) (mroot f (l.drop (split l.length)))
def mpath : Nat → List Nm → Nat → List Nm
  | 0, _, _ => []
  | f + 1, l, i => if l.length = 1 then [] else if i < split l.length then mpath f (l.take (split l.length)) i ++ [mroot f (l.drop (split l.length))] else mpath f (l.drop (split l.length)) (i - split l.length) ++ [mroot f (l.take (split l.length))]
theorem mroot_one {f : Nat} {l : List Nm} (h : l.length = 1) : mroot (f + 1) l = leafH (l.getD 0 Nm.zero) := by unfold mroot; rw [if_neg (by omega), if_pos h]
theorem mroot_two {f : Nat} {l : List Nm} (h0 : l.length ≠ 0) (h1 : l.length ≠ 1) : mroot (f + 1) l = pairH 18 (mroot f (l.take (split l.length))) (mroot f (l.drop (split l.length))) := by rw [mroot, if_neg h0, if_neg h1]
theorem mpath_one {f : Nat} {l : List Nm} {i : Nat} (h : l.length = 1) : mpath (f + 1) l i = [] := by rw [mpath, if_pos h]
theorem mpath_lo {f : Nat} {l : List Nm} {i : Nat} (h : l.length ≠ 1) (hi : i < split l.length) : mpath (f + 1) l i = mpath f (l.take (split l.length)) i ++ [mroot f (l.drop (split l.length))] := by rw [mpath, if_neg h, if_pos hi]
theorem mpath_hi {f : Nat} {l : List Nm} {i : Nat} (h : l.length ≠ 1) (hi : ¬ i < split l.length) : mpath (f + 1) l i = mpath f (l.drop (split l.length)) (i - split l.length) ++ [mroot f (l.take (split l.length))] := by rw [mpath, if_neg h, if_neg hi]
theorem mpath_len : ∀ (f : Nat) (l : List Nm) (i : Nat), l.length ≤ f → i < l.length → (mpath f l i).length = dep f i l.length
  | 0, l, i, h, hi => by omega
  | f + 1, l, i, h, hi => by
    by_cases h1 : l.length = 1
    · rw [mpath_one h1, h1, dep_end (by omega)]; rfl
    · have hs := split_bound (n := l.length) (by omega)
      by_cases hlo : i < split l.length
      · have ht : (l.take (split l.length)).length = split l.length := by rw [List.length_take]; omega
        rw [mpath_lo h1 hlo, dep_lo (by omega) hlo, List.length_append, mpath_len f _ i (by omega) (by omega), ht]; rfl
      · have ht : (l.drop (split l.length)).length = l.length - split l.length := by rw [List.length_drop]
        rw [mpath_hi h1 hlo, dep_hi (by omega) hlo, List.length_append, mpath_len f _ _ (by omega) (by omega), ht]; rfl
theorem mpath_ln {f : Nat} {l : List Nm} {i : Nat} (h : l.length ≤ f) (hi : i < l.length) : (mpath f l i).length ≤ l.length := by
  rw [mpath_len f l i h hi]; exact dep_le_n _ _ _
theorem oneSig_at (seed m : Nm) {c : Nat} (hc : c < 18) : (oneSig seed m)[c]? = some (wk c ((digits m).getD c 0) 0 (startN seed c)) := by
  unfold oneSig; rw [List.getElem?_map, List.getElem?_range hc]; rfl
theorem oneL_at (seed : Nm) {c : Nat} (hc : c < 18) : (oneL seed)[c]? = some (wk c 15 0 (startN seed c)) := by
  unfold oneL; rw [List.getElem?_map, List.getElem?_range hc]; rfl
theorem oneSig_len (seed m : Nm) : (oneSig seed m).length = 18 := by unfold oneSig; rw [List.length_map, List.length_range]
theorem oneL_len (seed : Nm) : (oneL seed).length = 18 := by unfold oneL; rw [List.length_map, List.length_range]
theorem leavesN_len (seed : Nm) (lv t : Nat) : (leavesN seed lv t).length = 32 := by unfold leavesN; rw [List.length_map, List.length_range]
theorem leavesN_at (seed : Nm) (lv t : Nat) {j : Nat} (hj : j < 32) : (leavesN seed lv t)[j]? = some (onePub (keyN seed lv t j)) := by
  unfold leavesN; rw [List.getElem?_map, List.getElem?_range hj]; rfl
def partN (seed : Nm) (lv t j : Nat) (m : Nm) : List UInt8 := (oneSig (keyN seed lv t j) m).flatMap Nm.b ++ (mpath 32 (leavesN seed lv t) j).flatMap Nm.b
theorem mpath5 (seed : Nm) (lv t : Nat) {j : Nat} (hj : j < 32) : (mpath 32 (leavesN seed lv t) j).length = 5 := by
  rw [mpath_len _ _ _ (by rw [leavesN_len]; omega) (by rw [leavesN_len]; exact hj), leavesN_len, dep32 j hj]
theorem partN_len (seed : Nm) (lv t : Nat) {j : Nat} (m : Nm) (hj : j < 32) : (partN seed lv t j m).length = 184 := by
  unfold partN; rw [List.length_append, flat_len, flat_len, oneSig_len, mpath5 seed lv t hj]
def sigN (seed : Nm) (leaf : Nat) (m : Nm) : List UInt8 := [by8 (((leaf : Nat) : Int) / 2 ^ 8), by8 ((leaf : Nat) : Int)] ++ (partN seed 1 (leaf / 32) (leaf % 32) m ++ partN seed 2 0 (leaf / 32) (mroot 32 (leavesN seed 1 (leaf / 32))))
end Go.Proofs.Yteeopgpgbdhmhaa
namespace Go.Proofs.Yteeopgpgbdhmhaa
open Go.RowKit Go.Lib
set_option linter.unusedVariables false
set_option linter.unusedSimpArgs false
theorem fillB4 (b0 b1 b2 b3 : UInt8) : Instr.fill (fun i => some (i * 1, 1)) ((Array.range (4 * 1)).map fun x => [Value.int .u8 0][x % [Value.int .u8 0].length]?.getD default) [(0, u8 b0), (1, u8 b1), (2, u8 b2), (3, u8 b3)] = some (bl [b0, b1, b2, b3]).toArray := by
  have : (Array.range (4 * 1)) = #[0, 1, 2, 3] := by decide
  rw [this]
  simp [Instr.fill, u8, Value.cells, bl]
theorem cutn_lo {α : Type} (l : List α) (k : Nat) : ((l.drop 0).take (k - 0)) = l.take k := by rw [List.drop_zero, Nat.sub_zero]
theorem cutn_hi {α : Type} (l : List α) (k : Nat) : ((l.drop k).take (l.length - k)) = l.drop k := List.take_of_length_le (by rw [List.length_drop]; exact Nat.le_refl _)
def cutF (v : Value) (k : Nat) : Value := match v with
  | .slice A _ _ => .slice A k k
  | _ => undef
section
variable {P : Program} {ρ : Operand → Value} {w : World} {dst : Option Tmp} {ty : TypeId} {pos : String} {aft : Array Edge} {gd : Option (Nat × Bool)}
theorem R_slice3 {w1 : World} {t e : TypeId} {x hi mx : Operand} {v : Value} {m sz : Nat} {cs : List Value} {k k' : IntKind} {j : Nat} (ht : P.underlying t = some (.slice e)) (hs : ∀ w, (sizeOf e).run P w = .ok sz w) (hx : ρ x = v) (hhi : ρ hi = .int k (j : Int)) (hmx : ρ mx = .int k' (j : Int)) (h : Rs w1 v m sz cs) (hj : j ≤ m) :
    (execOp ρ ⟨dst, .slice t x none (some hi) (some mx), ty, pos, aft, gd⟩).run P w = .ok (.value (cutF v j)) w := by
  obtain ⟨_, A, c, rfl, hm, _⟩ := h
  have h1 : j ≤ c := by omega
  by_cases h0 : j = 0
  · subst h0
    simp [go_sem, hx, hhi, hmx, Instr.sliceAt, Instr.slice, Instr.sliceBounds, Instr.sliceBound, run_underlying ht, hs, asIntOf, h1, cutF]
  · cases A <;> simp [go_sem, hx, hhi, hmx, Instr.sliceAt, Instr.slice, Instr.sliceBounds, Instr.sliceBound, run_underlying ht, hs, asIntOf, h1, cutF, h0, Addr.add]
end
section
variable {α : Type} {C : Cd α} {P : Program} {ops : Array Oper} {Q : Exit → Act → World → Prop} {K : Act → World → Prop} {n : Nat} {f : Nat → Value} {w : World} {d : Option Tmp} {ty : TypeId} {pos : String} {aft : Array Edge}
theorem Ls.cutF {lo : Nat} {v : Value} {xs : List α} (h : Ls C lo w v xs) {j : Nat} (hj : j ≤ xs.length) : Ls C lo w (cutF v j) ((xs.drop 0).take (j - 0)) := by
  rw [List.drop_zero, Nat.sub_zero]
  refine ⟨?_, fun x hx => h.2 x (List.mem_of_mem_take hx)⟩
  obtain ⟨hl, A, c, rfl, hm, hc, hA, hcell⟩ := h.1
  have hlen : (xs.take j).length = j := by rw [List.length_take]; omega
  rw [hlen]
  refine ⟨by rw [cs_len, hlen], A, j, rfl, Nat.le_refl _, by omega, fun e => by have := hA e; omega, fun i u hu => ?_⟩
  rw [cs_take] at hu
  exact hcell i u (by
    have h1 := (List.getElem?_eq_some_iff.1 hu).1
    rw [List.length_take] at h1
    rw [List.getElem?_take, if_pos (by omega)] at hu
    exact hu)
theorem D_appendF {lo bytes : Nat} {t : TypeId} {s x : Operand} {v u : Value} {xs ys : List α} (hI : ElT P C.e C.sz bytes) (ht : P.underlying t = some (.slice C.e)) (hs : ov n f s = cutF v xs.length) (hx : ov n f x = u) (ho : Ls C lo w v xs) (hu : Ls C lo w u ys) (hm : 0 < ys.length)
    (hb : (xs.length + ys.length) * bytes ≤ 140737488355328) (hb2 : xs.length + ys.length ≤ 140737488355328)
    (h : ∀ v' w', Ow C lo w.heap.size w' v' (xs ++ ys) → Ext w w' → K (E n (upo f d v')) w') :
    wpO P ops Q ⟨d, .call ⟨.builtin .append, #[s, x], #[t, t]⟩, ty, pos, aft, none⟩ K (E n f) w := by
  have hok : ∀ w', Ext w w' → ∀ y ∈ xs ++ ys, C.ok lo w' y := fun w' e y hy => C.fb _ _ _ _ ((List.mem_append.1 hy).elim (ho.2 y) (hu.2 y)) (Fb.ext e)
  have hcs : (xs ++ ys).length * C.sz = (xs ++ ys).length * C.sz := rfl
  have hF := ho.cutF (Nat.le_refl xs.length)
  rw [List.drop_zero, Nat.sub_zero, List.take_length] at hF
  obtain ⟨hl, A, c, rfl, hmc, hc63, hA, hcell⟩ := ho.1
  cases A with
  | some a =>
    by_cases hk : 0 < xs.length
    · refine D_appendFull (e := C.e) (sz := C.sz) (xs := C.cs xs) (news := C.cs ys) hI C.pos ht hs hx hF.1 hk hu.1 hm hb (by omega) fun v' w' h1 h2 => h v' w' ⟨by rw [List.length_append, cs_app]; exact h1, hok w' h2⟩ h2
    · have hx0 : xs = [] := List.length_eq_zero_iff.1 (by omega)
      subst hx0
      obtain ⟨i, z, hi, hz, e1, e2, e3⟩ := hI
      obtain ⟨hl2, A2, c2, rfl, _, _, hA2, hc2⟩ := hu.1
      cases A2 with
      | none => have := hA2 rfl; omega
      | some a2 =>
        obtain ⟨v', w', hr, h4, h5⟩ := run_append_arg_grows (P := P) w t ty C.e i z C.sz bytes ht hi hz e1 e2 e3 C.pos a 0 0 [] (by simp) (fun j u hj => by simp at hj) a2 ys.length c2 (C.cs ys) hl2 (fun j u hj => by obtain ⟨_, e, hc⟩ := hc2 j u hj; cases e; exact hc) (by omega) (by simp only [maxLen]; omega) (by simpa using hb)
        have hE : Ext w w' := (Ext.refl w).grown h5 (by simp)
        refine D_v (v := v') (w' := w') ?_ (h v' w' ⟨by simpa using h4, hok w' hE⟩ hE)
        simp only [cutF, List.length_nil] at hs
        simp only [execOp, resolve, invoke, builtin, Sem.run_bind, Sem.run_pure, Result.andThen_ok, List.map_toArray, List.map_cons, List.map_nil, hs, hx, hr]
  | none =>
    have hc0 := hA rfl
    have hx0 : xs = [] := List.length_eq_zero_iff.1 (by omega)
    subst hx0
    obtain ⟨v', w', h1, h2, h3, h4⟩ := run_append2 (ty := ty) (lo := w.heap.size) hI C.pos ht (own_nil (w := w) _ _ _) hu.1 (cs_pl _) hb (by omega) (Nat.le_refl _)
    have hE : Ext w w' := gext h3
    refine D_v (v := v') (w' := w') ?_ (h v' w' ⟨by simpa using h2, hok w' hE⟩ hE)
    simp only [cutF, List.length_nil] at hs
    simp only [execOp, resolve, invoke, builtin, Sem.run_bind, Sem.run_pure, Result.andThen_ok, List.map_toArray, List.map_cons, List.map_nil, hs, hx, h1]
/-- append to a row of bytes: the new row's block is the old one, or new -/
theorem D_appendB2 {lo : Nat} {t : TypeId} {s x : Operand} {v u : Value} {xs news : List UInt8} (hI : ElT P 5 1 1) (ht : P.underlying t = some (.slice 5)) (hs : ov n f s = v) (hx : ov n f x = u) (ho : OwnB w lo v xs) (hu : Bs w u news)
    (hb : xs.length + news.length ≤ 140737488355328) (hlo : lo ≤ w.heap.size)
    (h : ∀ v' w', OwnB w' lo v' (xs ++ news) → w.grownBy w' v.ownBlock → (∀ k, v'.ownBlock = some k → v.ownBlock = some k ∨ w.heap.size ≤ k) → K (E n (upo f d v')) w') :
    wpO P ops Q ⟨d, .call ⟨.builtin .append, #[s, x], #[t, t]⟩, ty, pos, aft, none⟩ K (E n f) w := by
  obtain ⟨v', w', h1, h2, h3, h4⟩ := run_append2 (ty := ty) hI (by decide) ht ho hu (bl_plain _) (by omega) (by omega) hlo
  refine D_v (v := v') (w' := w') ?_ (h v' w' (OwnB.of h2 (by simp) (bl_app _ _).symm) h3 h4)
  simp only [execOp, resolve, invoke, builtin, Sem.run_bind, Sem.run_pure, Result.andThen_ok, List.map_toArray, List.map_cons, List.map_nil, hs, hx, h1]
end
end Go.Proofs.Yteeopgpgbdhmhaa
