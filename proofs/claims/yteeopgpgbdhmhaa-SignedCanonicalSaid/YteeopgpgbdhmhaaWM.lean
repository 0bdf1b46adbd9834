/- Walks of the functions on bytes: the digits of a name. No condition. Printed by wip/mkK.py. -/
import Derived.Test.YteeopgpgbdhmhaaWL
namespace Go.Proofs.Yteeopgpgbdhmhaa
open Go.RowKit
set_option linter.unusedVariables false
set_option linter.unusedSimpArgs false
attribute [local irreducible] wpList wpO H wpQuiet wpStill Code.wp Exit.then Exit.inBlock bodyPost Code.rounds Calls valid sameKey conflict lessV hless num between
-- forkledger/onetime.Digits
set_option maxRecDepth 4000 in
set_option maxHeartbeats 4000000 in
theorem c178 (m : Nm) (w : World) : Calls Try.prog 178 [m.v].toArray w (RetE w fun r w' => Ow cI w.heap.size w.heap.size w' r (digits m)) := by
  refine enter Try.func178 Try.ntmps178 rfl rfl ?_
  have hE := Ext.refl w
  have hb0 := m.b0.toNat_lt
  have hb1 := m.b1.toNat_lt
  have hb2 := m.b2.toNat_lt
  have hb3 := m.b3.toNat_lt
  have hb4 := m.b4.toNat_lt
  have hb5 := m.b5.toNat_lt
  have hb6 := m.b6.toNat_lt
  have hb7 := m.b7.toNat_lt
  refine wp_seq ?_
  refine W_region ?_
  refine L (D_box (c := (m).l) (rfl) (fun aB1_0 w1_0 e1_0 gB1_0 hB1_0 => ?_))
  have lB1_0 := Nat.le_trans hE.size gB1_0
  replace hE := hE.trans e1_0
  refine L (D_v (R_assign rfl) ?_)
  refine S_nil ?_
  refine T_tn ?_
  refine wp_seq ?_
  refine W_region ?_
  refine L (D_makeL (C := cI) (lo := w.heap.size) (l := 0) (c := 18) mk3 Try.underlying161 rfl rfl (by (try simp only [List.length_take, List.length_drop, List.length_append, List.length_cons, List.length_nil, List.length_replicate, List.length_set, Nm.b_len, be2_len]); omega) (by (try simp only [List.length_take, List.length_drop, List.length_append, List.length_cons, List.length_nil, List.length_replicate, List.length_set, Nm.b_len, be2_len]); omega) (by (try simp only [List.length_take, List.length_drop, List.length_append, List.length_cons, List.length_nil, List.length_replicate, List.length_set, Nm.b_len, be2_len]); omega) (fun v2_0 w2_0 o2_0 e2_0 => ?_))
  replace o2_0 := o2_0.low hE.size
  replace hE := hE.trans e2_0
  replace hB1_0 := hB1_0.ext e2_0
  refine L (D_v (R_assign rfl) ?_)
  refine S_nil ?_
  refine T_tn ?_
  refine wp_seq ?_
  refine W_region ?_
  refine L (D_v (R_assign rfl) ?_)
  refine S_nil ?_
  refine T_tn ?_
  refine wp_seq ?_
  refine wp_seq ?_
  refine W_region ?_
  refine L (D_v (R_loadA (c := (m).l) Try.isAgg24 Try.sizeOf24 hB1_0 rfl rfl rfl) ?_)
  refine L (D_v (R_move rfl) ?_)
  refine S_nil ?_
  refine T_tn ?_
  refine wp_block ?_
  refine W_unroll 8 ?_
  refine W_round ?_
  refine wp_seq ?_
  refine W_region ?_
  refine L (D_v (R_cast (v' := .bool true) (R_lssI rfl rfl) rfl) ?_)
  refine S_nil ?_
  refine T_tn ?_
  refine wp_seq ?_
  refine W_ift rfl ?_
  refine wp_skip ?_
  refine T_tn ?_
  refine wp_seq ?_
  refine wp_block ?_
  refine wp_seq ?_
  refine W_region ?_
  refine L (D_v (R_index Try.runUnderlying24 Try.sizeOf5 Try.isAgg5 rfl rfl rfl (by decide) (by decide)) ?_)
  refine L (D_v (R_assign rfl) ?_)
  refine S_nil ?_
  refine T_tn ?_
  refine wp_seq ?_
  refine W_region ?_
  refine L (D_v (R_move rfl) ?_)
  refine L (D_v (R_shrB rfl rfl) ?_)
  refine L (D_v (R_convN (e := ((m).b0.toNat / 16)) Try.runUnderlying5 Try.runUnderlying3 rfl (by (try simp only [List.length_take, List.length_drop, List.length_append, List.length_cons, List.length_nil, List.length_replicate, List.length_set, Nm.b_len, be2_len]); omega)) ?_)
  refine L (D_v (R_move rfl) ?_)
  refine L (D_v (R_andB rfl rfl) ?_)
  refine L (D_v (R_convN (e := ((m).b0.toNat % 16)) Try.runUnderlying5 Try.runUnderlying3 rfl (by (try simp only [List.length_take, List.length_drop, List.length_append, List.length_cons, List.length_nil, List.length_replicate, List.length_set, Nm.b_len, be2_len]); omega)) ?_)
  refine L (D_v (R_assign rfl) ?_)
  refine L (D_v (R_assign rfl) ?_)
  refine S_nil ?_
  refine T_tn ?_
  refine wp_seq ?_
  refine W_region ?_
  refine L (D_v (R_move rfl) ?_)
  refine L (D_v (R_move rfl) ?_)
  refine L (D_v (R_move rfl) ?_)
  refine L (D_buildI2 (lo := w.heap.size) (a := ((m).b0.toNat / 16)) (b := ((m).b0.toNat % 16)) Try.underlying161 Try.sizeOf3 Try.zeroValue3 (mapp2 rfl rfl) (fun v8_3 w8_3 o8_3 e8_3 => ?_))
  have zv2_0_v8_3 := own_apart o2_0.1 o8_3.1
  have zv8_3_v2_0 := fun k hk hk2 => zv2_0_v8_3 k hk2 hk
  replace o8_3 := o8_3.low hE.size
  replace hE := hE.trans e8_3
  replace o2_0 := o2_0.ext e8_3
  refine L (D_appendL elt3 Try.underlying161 rfl rfl o2_0 (Nat.le_refl _) o8_3.ls (by (try simp only [List.length_take, List.length_drop, List.length_append, List.length_cons, List.length_nil, List.length_replicate, List.length_set, Nm.b_len, be2_len]); omega) (by (try simp only [List.length_take, List.length_drop, List.length_append, List.length_cons, List.length_nil, List.length_replicate, List.length_set, Nm.b_len, be2_len]); omega) hE.size (fun v8_4 w8_4 o8_4 g8_4 f8_4 sv8_4 => ?_))
  have zv8_3_v8_4 : ∀ k, Value.ownBlock v8_3 = some k → Value.ownBlock v8_4 ≠ some k := fun k hk2 hk => (sv8_4 _ hk).elim (fun h => zv8_3_v2_0 k hk2 h) (fun h => absurd h (Nat.not_le.2 (own_lt o8_3.1 hk2)))
  have zv8_4_v8_3 := fun k hk hk2 => zv8_3_v8_4 k hk2 hk
  replace hE := hE.grown g8_4 (fun k hk => own_ge o2_0.1 hk)
  replace o8_3 := o8_3.grown g8_4 (zv8_3_v2_0) f8_4
  refine L (D_v (R_assign rfl) ?_)
  refine S_nil ?_
  refine T_tn ?_
  refine W_region ?_
  refine L (D_v (R_move rfl) ?_)
  refine L (D_v (R_move rfl) ?_)
  refine L (D_v (R_move rfl) ?_)
  refine L (D_v (R_addN (m := ((m).b0.toNat / 16)) (j := ((m).b0.toNat % 16)) rfl rfl (by (try simp only [List.length_take, List.length_drop, List.length_append, List.length_cons, List.length_nil, List.length_replicate, List.length_set, Nm.b_len, be2_len]); omega)) ?_)
  refine L (D_v (R_subN (m := 240) (j := (((m).b0.toNat / 16) + ((m).b0.toNat % 16))) rfl rfl (by (try simp only [List.length_take, List.length_drop, List.length_append, List.length_cons, List.length_nil, List.length_replicate, List.length_set, Nm.b_len, be2_len]); omega) (by (try simp only [List.length_take, List.length_drop, List.length_append, List.length_cons, List.length_nil, List.length_replicate, List.length_set, Nm.b_len, be2_len]); omega)) ?_)
  refine L (D_v (R_assign rfl) ?_)
  refine S_nil ?_
  refine T_bn ?_
  refine T_tn ?_
  refine W_region ?_
  refine L (D_v (R_cast (v' := .int .i64 (1)) (R_addI rfl rfl) rfl) ?_)
  refine L (D_v (R_move rfl) ?_)
  refine S_nil ?_
  refine T_tn ?_
  refine W_round ?_
  refine wp_seq ?_
  refine W_region ?_
  refine L (D_v (R_cast (v' := .bool true) (R_lssI rfl rfl) rfl) ?_)
  refine S_nil ?_
  refine T_tn ?_
  refine wp_seq ?_
  refine W_ift rfl ?_
  refine wp_skip ?_
  refine T_tn ?_
  refine wp_seq ?_
  refine wp_block ?_
  refine wp_seq ?_
  refine W_region ?_
  refine L (D_v (R_index Try.runUnderlying24 Try.sizeOf5 Try.isAgg5 rfl rfl rfl (by decide) (by decide)) ?_)
  refine L (D_v (R_assign rfl) ?_)
  refine S_nil ?_
  refine T_tn ?_
  refine wp_seq ?_
  refine W_region ?_
  refine L (D_v (R_move rfl) ?_)
  refine L (D_v (R_shrB rfl rfl) ?_)
  refine L (D_v (R_convN (e := ((m).b1.toNat / 16)) Try.runUnderlying5 Try.runUnderlying3 rfl (by (try simp only [List.length_take, List.length_drop, List.length_append, List.length_cons, List.length_nil, List.length_replicate, List.length_set, Nm.b_len, be2_len]); omega)) ?_)
  refine L (D_v (R_move rfl) ?_)
  refine L (D_v (R_andB rfl rfl) ?_)
  refine L (D_v (R_convN (e := ((m).b1.toNat % 16)) Try.runUnderlying5 Try.runUnderlying3 rfl (by (try simp only [List.length_take, List.length_drop, List.length_append, List.length_cons, List.length_nil, List.length_replicate, List.length_set, Nm.b_len, be2_len]); omega)) ?_)
  refine L (D_v (R_assign rfl) ?_)
  refine L (D_v (R_assign rfl) ?_)
  refine S_nil ?_
  refine T_tn ?_
  refine wp_seq ?_
  refine W_region ?_
  refine L (D_v (R_move rfl) ?_)
  refine L (D_v (R_move rfl) ?_)
  refine L (D_v (R_move rfl) ?_)
  refine L (D_buildI2 (lo := w.heap.size) (a := ((m).b1.toNat / 16)) (b := ((m).b1.toNat % 16)) Try.underlying161 Try.sizeOf3 Try.zeroValue3 (mapp2 rfl rfl) (fun v14_3 w14_3 o14_3 e14_3 => ?_))
  have zv8_4_v14_3 := own_apart o8_4.1 o14_3.1
  have zv14_3_v8_4 := fun k hk hk2 => zv8_4_v14_3 k hk2 hk
  replace o14_3 := o14_3.low hE.size
  replace hE := hE.trans e14_3
  replace o8_4 := o8_4.ext e14_3
  refine L (D_appendL elt3 Try.underlying161 rfl rfl o8_4 (Nat.le_refl _) o14_3.ls (by (try simp only [List.length_take, List.length_drop, List.length_append, List.length_cons, List.length_nil, List.length_replicate, List.length_set, Nm.b_len, be2_len]); omega) (by (try simp only [List.length_take, List.length_drop, List.length_append, List.length_cons, List.length_nil, List.length_replicate, List.length_set, Nm.b_len, be2_len]); omega) hE.size (fun v14_4 w14_4 o14_4 g14_4 f14_4 sv14_4 => ?_))
  have zv14_3_v14_4 : ∀ k, Value.ownBlock v14_3 = some k → Value.ownBlock v14_4 ≠ some k := fun k hk2 hk => (sv14_4 _ hk).elim (fun h => zv14_3_v8_4 k hk2 h) (fun h => absurd h (Nat.not_le.2 (own_lt o14_3.1 hk2)))
  have zv14_4_v14_3 := fun k hk hk2 => zv14_3_v14_4 k hk2 hk
  replace hE := hE.grown g14_4 (fun k hk => own_ge o8_4.1 hk)
  replace o14_3 := o14_3.grown g14_4 (zv14_3_v8_4) f14_4
  refine L (D_v (R_assign rfl) ?_)
  refine S_nil ?_
  refine T_tn ?_
  refine W_region ?_
  refine L (D_v (R_move rfl) ?_)
  refine L (D_v (R_move rfl) ?_)
  refine L (D_v (R_move rfl) ?_)
  refine L (D_v (R_addN (m := ((m).b1.toNat / 16)) (j := ((m).b1.toNat % 16)) rfl rfl (by (try simp only [List.length_take, List.length_drop, List.length_append, List.length_cons, List.length_nil, List.length_replicate, List.length_set, Nm.b_len, be2_len]); omega)) ?_)
  refine L (D_v (R_subN (m := (240 - (((m).b0.toNat / 16) + ((m).b0.toNat % 16)))) (j := (((m).b1.toNat / 16) + ((m).b1.toNat % 16))) rfl rfl (by (try simp only [List.length_take, List.length_drop, List.length_append, List.length_cons, List.length_nil, List.length_replicate, List.length_set, Nm.b_len, be2_len]); omega) (by (try simp only [List.length_take, List.length_drop, List.length_append, List.length_cons, List.length_nil, List.length_replicate, List.length_set, Nm.b_len, be2_len]); omega)) ?_)
  refine L (D_v (R_assign rfl) ?_)
  refine S_nil ?_
  refine T_bn ?_
  refine T_tn ?_
  refine W_region ?_
  refine L (D_v (R_cast (v' := .int .i64 (2)) (R_addI rfl rfl) rfl) ?_)
  refine L (D_v (R_move rfl) ?_)
  refine S_nil ?_
  refine T_tn ?_
  refine W_round ?_
  refine wp_seq ?_
  refine W_region ?_
  refine L (D_v (R_cast (v' := .bool true) (R_lssI rfl rfl) rfl) ?_)
  refine S_nil ?_
  refine T_tn ?_
  refine wp_seq ?_
  refine W_ift rfl ?_
  refine wp_skip ?_
  refine T_tn ?_
  refine wp_seq ?_
  refine wp_block ?_
  refine wp_seq ?_
  refine W_region ?_
  refine L (D_v (R_index Try.runUnderlying24 Try.sizeOf5 Try.isAgg5 rfl rfl rfl (by decide) (by decide)) ?_)
  refine L (D_v (R_assign rfl) ?_)
  refine S_nil ?_
  refine T_tn ?_
  refine wp_seq ?_
  refine W_region ?_
  refine L (D_v (R_move rfl) ?_)
  refine L (D_v (R_shrB rfl rfl) ?_)
  refine L (D_v (R_convN (e := ((m).b2.toNat / 16)) Try.runUnderlying5 Try.runUnderlying3 rfl (by (try simp only [List.length_take, List.length_drop, List.length_append, List.length_cons, List.length_nil, List.length_replicate, List.length_set, Nm.b_len, be2_len]); omega)) ?_)
  refine L (D_v (R_move rfl) ?_)
  refine L (D_v (R_andB rfl rfl) ?_)
  refine L (D_v (R_convN (e := ((m).b2.toNat % 16)) Try.runUnderlying5 Try.runUnderlying3 rfl (by (try simp only [List.length_take, List.length_drop, List.length_append, List.length_cons, List.length_nil, List.length_replicate, List.length_set, Nm.b_len, be2_len]); omega)) ?_)
  refine L (D_v (R_assign rfl) ?_)
  refine L (D_v (R_assign rfl) ?_)
  refine S_nil ?_
  refine T_tn ?_
  refine wp_seq ?_
  refine W_region ?_
  refine L (D_v (R_move rfl) ?_)
  refine L (D_v (R_move rfl) ?_)
  refine L (D_v (R_move rfl) ?_)
  refine L (D_buildI2 (lo := w.heap.size) (a := ((m).b2.toNat / 16)) (b := ((m).b2.toNat % 16)) Try.underlying161 Try.sizeOf3 Try.zeroValue3 (mapp2 rfl rfl) (fun v20_3 w20_3 o20_3 e20_3 => ?_))
  have zv14_4_v20_3 := own_apart o14_4.1 o20_3.1
  have zv20_3_v14_4 := fun k hk hk2 => zv14_4_v20_3 k hk2 hk
  replace o20_3 := o20_3.low hE.size
  replace hE := hE.trans e20_3
  replace o14_4 := o14_4.ext e20_3
  refine L (D_appendL elt3 Try.underlying161 rfl rfl o14_4 (Nat.le_refl _) o20_3.ls (by (try simp only [List.length_take, List.length_drop, List.length_append, List.length_cons, List.length_nil, List.length_replicate, List.length_set, Nm.b_len, be2_len]); omega) (by (try simp only [List.length_take, List.length_drop, List.length_append, List.length_cons, List.length_nil, List.length_replicate, List.length_set, Nm.b_len, be2_len]); omega) hE.size (fun v20_4 w20_4 o20_4 g20_4 f20_4 sv20_4 => ?_))
  have zv20_3_v20_4 : ∀ k, Value.ownBlock v20_3 = some k → Value.ownBlock v20_4 ≠ some k := fun k hk2 hk => (sv20_4 _ hk).elim (fun h => zv20_3_v14_4 k hk2 h) (fun h => absurd h (Nat.not_le.2 (own_lt o20_3.1 hk2)))
  have zv20_4_v20_3 := fun k hk hk2 => zv20_3_v20_4 k hk2 hk
  replace hE := hE.grown g20_4 (fun k hk => own_ge o14_4.1 hk)
  replace o20_3 := o20_3.grown g20_4 (zv20_3_v14_4) f20_4
  refine L (D_v (R_assign rfl) ?_)
  refine S_nil ?_
  refine T_tn ?_
  refine W_region ?_
  refine L (D_v (R_move rfl) ?_)
  refine L (D_v (R_move rfl) ?_)
  refine L (D_v (R_move rfl) ?_)
  refine L (D_v (R_addN (m := ((m).b2.toNat / 16)) (j := ((m).b2.toNat % 16)) rfl rfl (by (try simp only [List.length_take, List.length_drop, List.length_append, List.length_cons, List.length_nil, List.length_replicate, List.length_set, Nm.b_len, be2_len]); omega)) ?_)
  refine L (D_v (R_subN (m := ((240 - (((m).b0.toNat / 16) + ((m).b0.toNat % 16))) - (((m).b1.toNat / 16) + ((m).b1.toNat % 16)))) (j := (((m).b2.toNat / 16) + ((m).b2.toNat % 16))) rfl rfl (by (try simp only [List.length_take, List.length_drop, List.length_append, List.length_cons, List.length_nil, List.length_replicate, List.length_set, Nm.b_len, be2_len]); omega) (by (try simp only [List.length_take, List.length_drop, List.length_append, List.length_cons, List.length_nil, List.length_replicate, List.length_set, Nm.b_len, be2_len]); omega)) ?_)
  refine L (D_v (R_assign rfl) ?_)
  refine S_nil ?_
  refine T_bn ?_
  refine T_tn ?_
  refine W_region ?_
  refine L (D_v (R_cast (v' := .int .i64 (3)) (R_addI rfl rfl) rfl) ?_)
  refine L (D_v (R_move rfl) ?_)
  refine S_nil ?_
  refine T_tn ?_
  refine W_round ?_
  refine wp_seq ?_
  refine W_region ?_
  refine L (D_v (R_cast (v' := .bool true) (R_lssI rfl rfl) rfl) ?_)
  refine S_nil ?_
  refine T_tn ?_
  refine wp_seq ?_
  refine W_ift rfl ?_
  refine wp_skip ?_
  refine T_tn ?_
  refine wp_seq ?_
  refine wp_block ?_
  refine wp_seq ?_
  refine W_region ?_
  refine L (D_v (R_index Try.runUnderlying24 Try.sizeOf5 Try.isAgg5 rfl rfl rfl (by decide) (by decide)) ?_)
  refine L (D_v (R_assign rfl) ?_)
  refine S_nil ?_
  refine T_tn ?_
  refine wp_seq ?_
  refine W_region ?_
  refine L (D_v (R_move rfl) ?_)
  refine L (D_v (R_shrB rfl rfl) ?_)
  refine L (D_v (R_convN (e := ((m).b3.toNat / 16)) Try.runUnderlying5 Try.runUnderlying3 rfl (by (try simp only [List.length_take, List.length_drop, List.length_append, List.length_cons, List.length_nil, List.length_replicate, List.length_set, Nm.b_len, be2_len]); omega)) ?_)
  refine L (D_v (R_move rfl) ?_)
  refine L (D_v (R_andB rfl rfl) ?_)
  refine L (D_v (R_convN (e := ((m).b3.toNat % 16)) Try.runUnderlying5 Try.runUnderlying3 rfl (by (try simp only [List.length_take, List.length_drop, List.length_append, List.length_cons, List.length_nil, List.length_replicate, List.length_set, Nm.b_len, be2_len]); omega)) ?_)
  refine L (D_v (R_assign rfl) ?_)
  refine L (D_v (R_assign rfl) ?_)
  refine S_nil ?_
  refine T_tn ?_
  refine wp_seq ?_
  refine W_region ?_
  refine L (D_v (R_move rfl) ?_)
  refine L (D_v (R_move rfl) ?_)
  refine L (D_v (R_move rfl) ?_)
  refine L (D_buildI2 (lo := w.heap.size) (a := ((m).b3.toNat / 16)) (b := ((m).b3.toNat % 16)) Try.underlying161 Try.sizeOf3 Try.zeroValue3 (mapp2 rfl rfl) (fun v26_3 w26_3 o26_3 e26_3 => ?_))
  have zv20_4_v26_3 := own_apart o20_4.1 o26_3.1
  have zv26_3_v20_4 := fun k hk hk2 => zv20_4_v26_3 k hk2 hk
  replace o26_3 := o26_3.low hE.size
  replace hE := hE.trans e26_3
  replace o20_4 := o20_4.ext e26_3
  refine L (D_appendL elt3 Try.underlying161 rfl rfl o20_4 (Nat.le_refl _) o26_3.ls (by (try simp only [List.length_take, List.length_drop, List.length_append, List.length_cons, List.length_nil, List.length_replicate, List.length_set, Nm.b_len, be2_len]); omega) (by (try simp only [List.length_take, List.length_drop, List.length_append, List.length_cons, List.length_nil, List.length_replicate, List.length_set, Nm.b_len, be2_len]); omega) hE.size (fun v26_4 w26_4 o26_4 g26_4 f26_4 sv26_4 => ?_))
  have zv26_3_v26_4 : ∀ k, Value.ownBlock v26_3 = some k → Value.ownBlock v26_4 ≠ some k := fun k hk2 hk => (sv26_4 _ hk).elim (fun h => zv26_3_v20_4 k hk2 h) (fun h => absurd h (Nat.not_le.2 (own_lt o26_3.1 hk2)))
  have zv26_4_v26_3 := fun k hk hk2 => zv26_3_v26_4 k hk2 hk
  replace hE := hE.grown g26_4 (fun k hk => own_ge o20_4.1 hk)
  replace o26_3 := o26_3.grown g26_4 (zv26_3_v20_4) f26_4
  refine L (D_v (R_assign rfl) ?_)
  refine S_nil ?_
  refine T_tn ?_
  refine W_region ?_
  refine L (D_v (R_move rfl) ?_)
  refine L (D_v (R_move rfl) ?_)
  refine L (D_v (R_move rfl) ?_)
  refine L (D_v (R_addN (m := ((m).b3.toNat / 16)) (j := ((m).b3.toNat % 16)) rfl rfl (by (try simp only [List.length_take, List.length_drop, List.length_append, List.length_cons, List.length_nil, List.length_replicate, List.length_set, Nm.b_len, be2_len]); omega)) ?_)
  refine L (D_v (R_subN (m := (((240 - (((m).b0.toNat / 16) + ((m).b0.toNat % 16))) - (((m).b1.toNat / 16) + ((m).b1.toNat % 16))) - (((m).b2.toNat / 16) + ((m).b2.toNat % 16)))) (j := (((m).b3.toNat / 16) + ((m).b3.toNat % 16))) rfl rfl (by (try simp only [List.length_take, List.length_drop, List.length_append, List.length_cons, List.length_nil, List.length_replicate, List.length_set, Nm.b_len, be2_len]); omega) (by (try simp only [List.length_take, List.length_drop, List.length_append, List.length_cons, List.length_nil, List.length_replicate, List.length_set, Nm.b_len, be2_len]); omega)) ?_)
  refine L (D_v (R_assign rfl) ?_)
  refine S_nil ?_
  refine T_bn ?_
  refine T_tn ?_
  refine W_region ?_
  refine L (D_v (R_cast (v' := .int .i64 (4)) (R_addI rfl rfl) rfl) ?_)
  refine L (D_v (R_move rfl) ?_)
  refine S_nil ?_
  refine T_tn ?_
  refine W_round ?_
  refine wp_seq ?_
  refine W_region ?_
  refine L (D_v (R_cast (v' := .bool true) (R_lssI rfl rfl) rfl) ?_)
  refine S_nil ?_
  refine T_tn ?_
  refine wp_seq ?_
  refine W_ift rfl ?_
  refine wp_skip ?_
  refine T_tn ?_
  refine wp_seq ?_
  refine wp_block ?_
  refine wp_seq ?_
  refine W_region ?_
  refine L (D_v (R_index Try.runUnderlying24 Try.sizeOf5 Try.isAgg5 rfl rfl rfl (by decide) (by decide)) ?_)
  refine L (D_v (R_assign rfl) ?_)
  refine S_nil ?_
  refine T_tn ?_
  refine wp_seq ?_
  refine W_region ?_
  refine L (D_v (R_move rfl) ?_)
  refine L (D_v (R_shrB rfl rfl) ?_)
  refine L (D_v (R_convN (e := ((m).b4.toNat / 16)) Try.runUnderlying5 Try.runUnderlying3 rfl (by (try simp only [List.length_take, List.length_drop, List.length_append, List.length_cons, List.length_nil, List.length_replicate, List.length_set, Nm.b_len, be2_len]); omega)) ?_)
  refine L (D_v (R_move rfl) ?_)
  refine L (D_v (R_andB rfl rfl) ?_)
  refine L (D_v (R_convN (e := ((m).b4.toNat % 16)) Try.runUnderlying5 Try.runUnderlying3 rfl (by (try simp only [List.length_take, List.length_drop, List.length_append, List.length_cons, List.length_nil, List.length_replicate, List.length_set, Nm.b_len, be2_len]); omega)) ?_)
  refine L (D_v (R_assign rfl) ?_)
  refine L (D_v (R_assign rfl) ?_)
  refine S_nil ?_
  refine T_tn ?_
  refine wp_seq ?_
  refine W_region ?_
  refine L (D_v (R_move rfl) ?_)
  refine L (D_v (R_move rfl) ?_)
  refine L (D_v (R_move rfl) ?_)
  refine L (D_buildI2 (lo := w.heap.size) (a := ((m).b4.toNat / 16)) (b := ((m).b4.toNat % 16)) Try.underlying161 Try.sizeOf3 Try.zeroValue3 (mapp2 rfl rfl) (fun v32_3 w32_3 o32_3 e32_3 => ?_))
  have zv26_4_v32_3 := own_apart o26_4.1 o32_3.1
  have zv32_3_v26_4 := fun k hk hk2 => zv26_4_v32_3 k hk2 hk
  replace o32_3 := o32_3.low hE.size
  replace hE := hE.trans e32_3
  replace o26_4 := o26_4.ext e32_3
  refine L (D_appendL elt3 Try.underlying161 rfl rfl o26_4 (Nat.le_refl _) o32_3.ls (by (try simp only [List.length_take, List.length_drop, List.length_append, List.length_cons, List.length_nil, List.length_replicate, List.length_set, Nm.b_len, be2_len]); omega) (by (try simp only [List.length_take, List.length_drop, List.length_append, List.length_cons, List.length_nil, List.length_replicate, List.length_set, Nm.b_len, be2_len]); omega) hE.size (fun v32_4 w32_4 o32_4 g32_4 f32_4 sv32_4 => ?_))
  have zv32_3_v32_4 : ∀ k, Value.ownBlock v32_3 = some k → Value.ownBlock v32_4 ≠ some k := fun k hk2 hk => (sv32_4 _ hk).elim (fun h => zv32_3_v26_4 k hk2 h) (fun h => absurd h (Nat.not_le.2 (own_lt o32_3.1 hk2)))
  have zv32_4_v32_3 := fun k hk hk2 => zv32_3_v32_4 k hk2 hk
  replace hE := hE.grown g32_4 (fun k hk => own_ge o26_4.1 hk)
  replace o32_3 := o32_3.grown g32_4 (zv32_3_v26_4) f32_4
  refine L (D_v (R_assign rfl) ?_)
  refine S_nil ?_
  refine T_tn ?_
  refine W_region ?_
  refine L (D_v (R_move rfl) ?_)
  refine L (D_v (R_move rfl) ?_)
  refine L (D_v (R_move rfl) ?_)
  refine L (D_v (R_addN (m := ((m).b4.toNat / 16)) (j := ((m).b4.toNat % 16)) rfl rfl (by (try simp only [List.length_take, List.length_drop, List.length_append, List.length_cons, List.length_nil, List.length_replicate, List.length_set, Nm.b_len, be2_len]); omega)) ?_)
  refine L (D_v (R_subN (m := ((((240 - (((m).b0.toNat / 16) + ((m).b0.toNat % 16))) - (((m).b1.toNat / 16) + ((m).b1.toNat % 16))) - (((m).b2.toNat / 16) + ((m).b2.toNat % 16))) - (((m).b3.toNat / 16) + ((m).b3.toNat % 16)))) (j := (((m).b4.toNat / 16) + ((m).b4.toNat % 16))) rfl rfl (by (try simp only [List.length_take, List.length_drop, List.length_append, List.length_cons, List.length_nil, List.length_replicate, List.length_set, Nm.b_len, be2_len]); omega) (by (try simp only [List.length_take, List.length_drop, List.length_append, List.length_cons, List.length_nil, List.length_replicate, List.length_set, Nm.b_len, be2_len]); omega)) ?_)
  refine L (D_v (R_assign rfl) ?_)
  refine S_nil ?_
  refine T_bn ?_
  refine T_tn ?_
  refine W_region ?_
  refine L (D_v (R_cast (v' := .int .i64 (5)) (R_addI rfl rfl) rfl) ?_)
  refine L (D_v (R_move rfl) ?_)
  refine S_nil ?_
  refine T_tn ?_
  refine W_round ?_
  refine wp_seq ?_
  refine W_region ?_
  refine L (D_v (R_cast (v' := .bool true) (R_lssI rfl rfl) rfl) ?_)
  refine S_nil ?_
  refine T_tn ?_
  refine wp_seq ?_
  refine W_ift rfl ?_
  refine wp_skip ?_
  refine T_tn ?_
  refine wp_seq ?_
  refine wp_block ?_
  refine wp_seq ?_
  refine W_region ?_
  refine L (D_v (R_index Try.runUnderlying24 Try.sizeOf5 Try.isAgg5 rfl rfl rfl (by decide) (by decide)) ?_)
  refine L (D_v (R_assign rfl) ?_)
  refine S_nil ?_
  refine T_tn ?_
  refine wp_seq ?_
  refine W_region ?_
  refine L (D_v (R_move rfl) ?_)
  refine L (D_v (R_shrB rfl rfl) ?_)
  refine L (D_v (R_convN (e := ((m).b5.toNat / 16)) Try.runUnderlying5 Try.runUnderlying3 rfl (by (try simp only [List.length_take, List.length_drop, List.length_append, List.length_cons, List.length_nil, List.length_replicate, List.length_set, Nm.b_len, be2_len]); omega)) ?_)
  refine L (D_v (R_move rfl) ?_)
  refine L (D_v (R_andB rfl rfl) ?_)
  refine L (D_v (R_convN (e := ((m).b5.toNat % 16)) Try.runUnderlying5 Try.runUnderlying3 rfl (by (try simp only [List.length_take, List.length_drop, List.length_append, List.length_cons, List.length_nil, List.length_replicate, List.length_set, Nm.b_len, be2_len]); omega)) ?_)
  refine L (D_v (R_assign rfl) ?_)
  refine L (D_v (R_assign rfl) ?_)
  refine S_nil ?_
  refine T_tn ?_
  refine wp_seq ?_
  refine W_region ?_
  refine L (D_v (R_move rfl) ?_)
  refine L (D_v (R_move rfl) ?_)
  refine L (D_v (R_move rfl) ?_)
  refine L (D_buildI2 (lo := w.heap.size) (a := ((m).b5.toNat / 16)) (b := ((m).b5.toNat % 16)) Try.underlying161 Try.sizeOf3 Try.zeroValue3 (mapp2 rfl rfl) (fun v38_3 w38_3 o38_3 e38_3 => ?_))
  have zv32_4_v38_3 := own_apart o32_4.1 o38_3.1
  have zv38_3_v32_4 := fun k hk hk2 => zv32_4_v38_3 k hk2 hk
  replace o38_3 := o38_3.low hE.size
  replace hE := hE.trans e38_3
  replace o32_4 := o32_4.ext e38_3
  refine L (D_appendL elt3 Try.underlying161 rfl rfl o32_4 (Nat.le_refl _) o38_3.ls (by (try simp only [List.length_take, List.length_drop, List.length_append, List.length_cons, List.length_nil, List.length_replicate, List.length_set, Nm.b_len, be2_len]); omega) (by (try simp only [List.length_take, List.length_drop, List.length_append, List.length_cons, List.length_nil, List.length_replicate, List.length_set, Nm.b_len, be2_len]); omega) hE.size (fun v38_4 w38_4 o38_4 g38_4 f38_4 sv38_4 => ?_))
  have zv38_3_v38_4 : ∀ k, Value.ownBlock v38_3 = some k → Value.ownBlock v38_4 ≠ some k := fun k hk2 hk => (sv38_4 _ hk).elim (fun h => zv38_3_v32_4 k hk2 h) (fun h => absurd h (Nat.not_le.2 (own_lt o38_3.1 hk2)))
  have zv38_4_v38_3 := fun k hk hk2 => zv38_3_v38_4 k hk2 hk
  replace hE := hE.grown g38_4 (fun k hk => own_ge o32_4.1 hk)
  replace o38_3 := o38_3.grown g38_4 (zv38_3_v32_4) f38_4
  refine L (D_v (R_assign rfl) ?_)
  refine S_nil ?_
  refine T_tn ?_
  refine W_region ?_
  refine L (D_v (R_move rfl) ?_)
  refine L (D_v (R_move rfl) ?_)
  refine L (D_v (R_move rfl) ?_)
  refine L (D_v (R_addN (m := ((m).b5.toNat / 16)) (j := ((m).b5.toNat % 16)) rfl rfl (by (try simp only [List.length_take, List.length_drop, List.length_append, List.length_cons, List.length_nil, List.length_replicate, List.length_set, Nm.b_len, be2_len]); omega)) ?_)
  refine L (D_v (R_subN (m := (((((240 - (((m).b0.toNat / 16) + ((m).b0.toNat % 16))) - (((m).b1.toNat / 16) + ((m).b1.toNat % 16))) - (((m).b2.toNat / 16) + ((m).b2.toNat % 16))) - (((m).b3.toNat / 16) + ((m).b3.toNat % 16))) - (((m).b4.toNat / 16) + ((m).b4.toNat % 16)))) (j := (((m).b5.toNat / 16) + ((m).b5.toNat % 16))) rfl rfl (by (try simp only [List.length_take, List.length_drop, List.length_append, List.length_cons, List.length_nil, List.length_replicate, List.length_set, Nm.b_len, be2_len]); omega) (by (try simp only [List.length_take, List.length_drop, List.length_append, List.length_cons, List.length_nil, List.length_replicate, List.length_set, Nm.b_len, be2_len]); omega)) ?_)
  refine L (D_v (R_assign rfl) ?_)
  refine S_nil ?_
  refine T_bn ?_
  refine T_tn ?_
  refine W_region ?_
  refine L (D_v (R_cast (v' := .int .i64 (6)) (R_addI rfl rfl) rfl) ?_)
  refine L (D_v (R_move rfl) ?_)
  refine S_nil ?_
  refine T_tn ?_
  refine W_round ?_
  refine wp_seq ?_
  refine W_region ?_
  refine L (D_v (R_cast (v' := .bool true) (R_lssI rfl rfl) rfl) ?_)
  refine S_nil ?_
  refine T_tn ?_
  refine wp_seq ?_
  refine W_ift rfl ?_
  refine wp_skip ?_
  refine T_tn ?_
  refine wp_seq ?_
  refine wp_block ?_
  refine wp_seq ?_
  refine W_region ?_
  refine L (D_v (R_index Try.runUnderlying24 Try.sizeOf5 Try.isAgg5 rfl rfl rfl (by decide) (by decide)) ?_)
  refine L (D_v (R_assign rfl) ?_)
  refine S_nil ?_
  refine T_tn ?_
  refine wp_seq ?_
  refine W_region ?_
  refine L (D_v (R_move rfl) ?_)
  refine L (D_v (R_shrB rfl rfl) ?_)
  refine L (D_v (R_convN (e := ((m).b6.toNat / 16)) Try.runUnderlying5 Try.runUnderlying3 rfl (by (try simp only [List.length_take, List.length_drop, List.length_append, List.length_cons, List.length_nil, List.length_replicate, List.length_set, Nm.b_len, be2_len]); omega)) ?_)
  refine L (D_v (R_move rfl) ?_)
  refine L (D_v (R_andB rfl rfl) ?_)
  refine L (D_v (R_convN (e := ((m).b6.toNat % 16)) Try.runUnderlying5 Try.runUnderlying3 rfl (by (try simp only [List.length_take, List.length_drop, List.length_append, List.length_cons, List.length_nil, List.length_replicate, List.length_set, Nm.b_len, be2_len]); omega)) ?_)
  refine L (D_v (R_assign rfl) ?_)
  refine L (D_v (R_assign rfl) ?_)
  refine S_nil ?_
  refine T_tn ?_
  refine wp_seq ?_
  refine W_region ?_
  refine L (D_v (R_move rfl) ?_)
  refine L (D_v (R_move rfl) ?_)
  refine L (D_v (R_move rfl) ?_)
  refine L (D_buildI2 (lo := w.heap.size) (a := ((m).b6.toNat / 16)) (b := ((m).b6.toNat % 16)) Try.underlying161 Try.sizeOf3 Try.zeroValue3 (mapp2 rfl rfl) (fun v44_3 w44_3 o44_3 e44_3 => ?_))
  have zv38_4_v44_3 := own_apart o38_4.1 o44_3.1
  have zv44_3_v38_4 := fun k hk hk2 => zv38_4_v44_3 k hk2 hk
  replace o44_3 := o44_3.low hE.size
  replace hE := hE.trans e44_3
  replace o38_4 := o38_4.ext e44_3
  refine L (D_appendL elt3 Try.underlying161 rfl rfl o38_4 (Nat.le_refl _) o44_3.ls (by (try simp only [List.length_take, List.length_drop, List.length_append, List.length_cons, List.length_nil, List.length_replicate, List.length_set, Nm.b_len, be2_len]); omega) (by (try simp only [List.length_take, List.length_drop, List.length_append, List.length_cons, List.length_nil, List.length_replicate, List.length_set, Nm.b_len, be2_len]); omega) hE.size (fun v44_4 w44_4 o44_4 g44_4 f44_4 sv44_4 => ?_))
  have zv44_3_v44_4 : ∀ k, Value.ownBlock v44_3 = some k → Value.ownBlock v44_4 ≠ some k := fun k hk2 hk => (sv44_4 _ hk).elim (fun h => zv44_3_v38_4 k hk2 h) (fun h => absurd h (Nat.not_le.2 (own_lt o44_3.1 hk2)))
  have zv44_4_v44_3 := fun k hk hk2 => zv44_3_v44_4 k hk2 hk
  replace hE := hE.grown g44_4 (fun k hk => own_ge o38_4.1 hk)
  replace o44_3 := o44_3.grown g44_4 (zv44_3_v38_4) f44_4
  refine L (D_v (R_assign rfl) ?_)
  refine S_nil ?_
  refine T_tn ?_
  refine W_region ?_
  refine L (D_v (R_move rfl) ?_)
  refine L (D_v (R_move rfl) ?_)
  refine L (D_v (R_move rfl) ?_)
  refine L (D_v (R_addN (m := ((m).b6.toNat / 16)) (j := ((m).b6.toNat % 16)) rfl rfl (by (try simp only [List.length_take, List.length_drop, List.length_append, List.length_cons, List.length_nil, List.length_replicate, List.length_set, Nm.b_len, be2_len]); omega)) ?_)
  refine L (D_v (R_subN (m := ((((((240 - (((m).b0.toNat / 16) + ((m).b0.toNat % 16))) - (((m).b1.toNat / 16) + ((m).b1.toNat % 16))) - (((m).b2.toNat / 16) + ((m).b2.toNat % 16))) - (((m).b3.toNat / 16) + ((m).b3.toNat % 16))) - (((m).b4.toNat / 16) + ((m).b4.toNat % 16))) - (((m).b5.toNat / 16) + ((m).b5.toNat % 16)))) (j := (((m).b6.toNat / 16) + ((m).b6.toNat % 16))) rfl rfl (by (try simp only [List.length_take, List.length_drop, List.length_append, List.length_cons, List.length_nil, List.length_replicate, List.length_set, Nm.b_len, be2_len]); omega) (by (try simp only [List.length_take, List.length_drop, List.length_append, List.length_cons, List.length_nil, List.length_replicate, List.length_set, Nm.b_len, be2_len]); omega)) ?_)
  refine L (D_v (R_assign rfl) ?_)
  refine S_nil ?_
  refine T_bn ?_
  refine T_tn ?_
  refine W_region ?_
  refine L (D_v (R_cast (v' := .int .i64 (7)) (R_addI rfl rfl) rfl) ?_)
  refine L (D_v (R_move rfl) ?_)
  refine S_nil ?_
  refine T_tn ?_
  refine W_round ?_
  refine wp_seq ?_
  refine W_region ?_
  refine L (D_v (R_cast (v' := .bool true) (R_lssI rfl rfl) rfl) ?_)
  refine S_nil ?_
  refine T_tn ?_
  refine wp_seq ?_
  refine W_ift rfl ?_
  refine wp_skip ?_
  refine T_tn ?_
  refine wp_seq ?_
  refine wp_block ?_
  refine wp_seq ?_
  refine W_region ?_
  refine L (D_v (R_index Try.runUnderlying24 Try.sizeOf5 Try.isAgg5 rfl rfl rfl (by decide) (by decide)) ?_)
  refine L (D_v (R_assign rfl) ?_)
  refine S_nil ?_
  refine T_tn ?_
  refine wp_seq ?_
  refine W_region ?_
  refine L (D_v (R_move rfl) ?_)
  refine L (D_v (R_shrB rfl rfl) ?_)
  refine L (D_v (R_convN (e := ((m).b7.toNat / 16)) Try.runUnderlying5 Try.runUnderlying3 rfl (by (try simp only [List.length_take, List.length_drop, List.length_append, List.length_cons, List.length_nil, List.length_replicate, List.length_set, Nm.b_len, be2_len]); omega)) ?_)
  refine L (D_v (R_move rfl) ?_)
  refine L (D_v (R_andB rfl rfl) ?_)
  refine L (D_v (R_convN (e := ((m).b7.toNat % 16)) Try.runUnderlying5 Try.runUnderlying3 rfl (by (try simp only [List.length_take, List.length_drop, List.length_append, List.length_cons, List.length_nil, List.length_replicate, List.length_set, Nm.b_len, be2_len]); omega)) ?_)
  refine L (D_v (R_assign rfl) ?_)
  refine L (D_v (R_assign rfl) ?_)
  refine S_nil ?_
  refine T_tn ?_
  refine wp_seq ?_
  refine W_region ?_
  refine L (D_v (R_move rfl) ?_)
  refine L (D_v (R_move rfl) ?_)
  refine L (D_v (R_move rfl) ?_)
  refine L (D_buildI2 (lo := w.heap.size) (a := ((m).b7.toNat / 16)) (b := ((m).b7.toNat % 16)) Try.underlying161 Try.sizeOf3 Try.zeroValue3 (mapp2 rfl rfl) (fun v50_3 w50_3 o50_3 e50_3 => ?_))
  have zv44_4_v50_3 := own_apart o44_4.1 o50_3.1
  have zv50_3_v44_4 := fun k hk hk2 => zv44_4_v50_3 k hk2 hk
  replace o50_3 := o50_3.low hE.size
  replace hE := hE.trans e50_3
  replace o44_4 := o44_4.ext e50_3
  refine L (D_appendL elt3 Try.underlying161 rfl rfl o44_4 (Nat.le_refl _) o50_3.ls (by (try simp only [List.length_take, List.length_drop, List.length_append, List.length_cons, List.length_nil, List.length_replicate, List.length_set, Nm.b_len, be2_len]); omega) (by (try simp only [List.length_take, List.length_drop, List.length_append, List.length_cons, List.length_nil, List.length_replicate, List.length_set, Nm.b_len, be2_len]); omega) hE.size (fun v50_4 w50_4 o50_4 g50_4 f50_4 sv50_4 => ?_))
  have zv50_3_v50_4 : ∀ k, Value.ownBlock v50_3 = some k → Value.ownBlock v50_4 ≠ some k := fun k hk2 hk => (sv50_4 _ hk).elim (fun h => zv50_3_v44_4 k hk2 h) (fun h => absurd h (Nat.not_le.2 (own_lt o50_3.1 hk2)))
  have zv50_4_v50_3 := fun k hk hk2 => zv50_3_v50_4 k hk2 hk
  replace hE := hE.grown g50_4 (fun k hk => own_ge o44_4.1 hk)
  replace o50_3 := o50_3.grown g50_4 (zv50_3_v44_4) f50_4
  refine L (D_v (R_assign rfl) ?_)
  refine S_nil ?_
  refine T_tn ?_
  refine W_region ?_
  refine L (D_v (R_move rfl) ?_)
  refine L (D_v (R_move rfl) ?_)
  refine L (D_v (R_move rfl) ?_)
  refine L (D_v (R_addN (m := ((m).b7.toNat / 16)) (j := ((m).b7.toNat % 16)) rfl rfl (by (try simp only [List.length_take, List.length_drop, List.length_append, List.length_cons, List.length_nil, List.length_replicate, List.length_set, Nm.b_len, be2_len]); omega)) ?_)
  refine L (D_v (R_subN (m := (((((((240 - (((m).b0.toNat / 16) + ((m).b0.toNat % 16))) - (((m).b1.toNat / 16) + ((m).b1.toNat % 16))) - (((m).b2.toNat / 16) + ((m).b2.toNat % 16))) - (((m).b3.toNat / 16) + ((m).b3.toNat % 16))) - (((m).b4.toNat / 16) + ((m).b4.toNat % 16))) - (((m).b5.toNat / 16) + ((m).b5.toNat % 16))) - (((m).b6.toNat / 16) + ((m).b6.toNat % 16)))) (j := (((m).b7.toNat / 16) + ((m).b7.toNat % 16))) rfl rfl (by (try simp only [List.length_take, List.length_drop, List.length_append, List.length_cons, List.length_nil, List.length_replicate, List.length_set, Nm.b_len, be2_len]); omega) (by (try simp only [List.length_take, List.length_drop, List.length_append, List.length_cons, List.length_nil, List.length_replicate, List.length_set, Nm.b_len, be2_len]); omega)) ?_)
  refine L (D_v (R_assign rfl) ?_)
  refine S_nil ?_
  refine T_bn ?_
  refine T_tn ?_
  refine W_region ?_
  refine L (D_v (R_cast (v' := .int .i64 (8)) (R_addI rfl rfl) rfl) ?_)
  refine L (D_v (R_move rfl) ?_)
  refine S_nil ?_
  refine T_tn ?_
  refine W_round ?_
  refine wp_seq ?_
  refine W_region ?_
  refine L (D_v (R_cast (v' := .bool false) (R_lssI rfl rfl) rfl) ?_)
  refine S_nil ?_
  refine T_tn ?_
  refine wp_seq ?_
  refine W_iff rfl ?_
  refine wp_exit ?_
  refine T_te ?_
  refine T_te ?_
  refine T_be ?_
  refine T_tn ?_
  refine wp_seq ?_
  refine W_region ?_
  refine L (D_v (R_move rfl) ?_)
  refine L (D_v (R_move rfl) ?_)
  refine L (D_v (R_shrN (m := ((((((((240 - (((m).b0.toNat / 16) + ((m).b0.toNat % 16))) - (((m).b1.toNat / 16) + ((m).b1.toNat % 16))) - (((m).b2.toNat / 16) + ((m).b2.toNat % 16))) - (((m).b3.toNat / 16) + ((m).b3.toNat % 16))) - (((m).b4.toNat / 16) + ((m).b4.toNat % 16))) - (((m).b5.toNat / 16) + ((m).b5.toNat % 16))) - (((m).b6.toNat / 16) + ((m).b6.toNat % 16))) - (((m).b7.toNat / 16) + ((m).b7.toNat % 16)))) rfl rfl) ?_)
  refine L (D_v (R_move rfl) ?_)
  refine L (D_v (R_andN (m := ((((((((240 - (((m).b0.toNat / 16) + ((m).b0.toNat % 16))) - (((m).b1.toNat / 16) + ((m).b1.toNat % 16))) - (((m).b2.toNat / 16) + ((m).b2.toNat % 16))) - (((m).b3.toNat / 16) + ((m).b3.toNat % 16))) - (((m).b4.toNat / 16) + ((m).b4.toNat % 16))) - (((m).b5.toNat / 16) + ((m).b5.toNat % 16))) - (((m).b6.toNat / 16) + ((m).b6.toNat % 16))) - (((m).b7.toNat / 16) + ((m).b7.toNat % 16)))) rfl rfl (by (try simp only [List.length_take, List.length_drop, List.length_append, List.length_cons, List.length_nil, List.length_replicate, List.length_set, Nm.b_len, be2_len]); omega)) ?_)
  refine L (D_buildI2 (lo := w.heap.size) (a := (((((((((240 - (((m).b0.toNat / 16) + ((m).b0.toNat % 16))) - (((m).b1.toNat / 16) + ((m).b1.toNat % 16))) - (((m).b2.toNat / 16) + ((m).b2.toNat % 16))) - (((m).b3.toNat / 16) + ((m).b3.toNat % 16))) - (((m).b4.toNat / 16) + ((m).b4.toNat % 16))) - (((m).b5.toNat / 16) + ((m).b5.toNat % 16))) - (((m).b6.toNat / 16) + ((m).b6.toNat % 16))) - (((m).b7.toNat / 16) + ((m).b7.toNat % 16))) / 16)) (b := (((((((((240 - (((m).b0.toNat / 16) + ((m).b0.toNat % 16))) - (((m).b1.toNat / 16) + ((m).b1.toNat % 16))) - (((m).b2.toNat / 16) + ((m).b2.toNat % 16))) - (((m).b3.toNat / 16) + ((m).b3.toNat % 16))) - (((m).b4.toNat / 16) + ((m).b4.toNat % 16))) - (((m).b5.toNat / 16) + ((m).b5.toNat % 16))) - (((m).b6.toNat / 16) + ((m).b6.toNat % 16))) - (((m).b7.toNat / 16) + ((m).b7.toNat % 16))) % 16)) Try.underlying161 Try.sizeOf3 Try.zeroValue3 (mapp2 rfl rfl) (fun v54_5 w54_5 o54_5 e54_5 => ?_))
  have zv50_4_v54_5 := own_apart o50_4.1 o54_5.1
  have zv54_5_v50_4 := fun k hk hk2 => zv50_4_v54_5 k hk2 hk
  replace o54_5 := o54_5.low hE.size
  replace hE := hE.trans e54_5
  replace o50_4 := o50_4.ext e54_5
  refine L (D_appendL elt3 Try.underlying161 rfl rfl o50_4 (Nat.le_refl _) o54_5.ls (by (try simp only [List.length_take, List.length_drop, List.length_append, List.length_cons, List.length_nil, List.length_replicate, List.length_set, Nm.b_len, be2_len]); omega) (by (try simp only [List.length_take, List.length_drop, List.length_append, List.length_cons, List.length_nil, List.length_replicate, List.length_set, Nm.b_len, be2_len]); omega) hE.size (fun v54_6 w54_6 o54_6 g54_6 f54_6 sv54_6 => ?_))
  have zv54_5_v54_6 : ∀ k, Value.ownBlock v54_5 = some k → Value.ownBlock v54_6 ≠ some k := fun k hk2 hk => (sv54_6 _ hk).elim (fun h => zv54_5_v50_4 k hk2 h) (fun h => absurd h (Nat.not_le.2 (own_lt o54_5.1 hk2)))
  have zv54_6_v54_5 := fun k hk hk2 => zv54_5_v54_6 k hk2 hk
  replace hE := hE.grown g54_6 (fun k hk => own_ge o50_4.1 hk)
  replace o54_5 := o54_5.grown g54_6 (zv54_5_v50_4) f54_6
  refine L (D_v (R_assign rfl) ?_)
  refine S_nil ?_
  refine T_tn ?_
  refine wp_ret ?_
  refine ret1 (v := v54_6) rfl rfl ⟨_, rfl, hE, ?_⟩
  unfold digits drest; simp only [Nat.sub_add_eq]; first | exact o54_6 | (simp only [Nat.sub_add_eq] at o54_6; exact o54_6)

-- forkledger/forkledgerref1.Digits
set_option maxRecDepth 4000 in
set_option maxHeartbeats 4000000 in
theorem c143 (m : Nm) (w : World) : Calls Try.prog 143 [m.v].toArray w (RetE w fun r w' => Ow cI w.heap.size w.heap.size w' r (digits m)) := by
  refine enter Try.func143 Try.ntmps143 rfl rfl ?_
  have hE := Ext.refl w
  have hb0 := m.b0.toNat_lt
  have hb1 := m.b1.toNat_lt
  have hb2 := m.b2.toNat_lt
  have hb3 := m.b3.toNat_lt
  have hb4 := m.b4.toNat_lt
  have hb5 := m.b5.toNat_lt
  have hb6 := m.b6.toNat_lt
  have hb7 := m.b7.toNat_lt
  refine wp_seq ?_
  refine W_region ?_
  refine L (D_box (c := (m).l) (rfl) (fun aB1_0 w1_0 e1_0 gB1_0 hB1_0 => ?_))
  have lB1_0 := Nat.le_trans hE.size gB1_0
  replace hE := hE.trans e1_0
  refine L (D_v (R_assign rfl) ?_)
  refine S_nil ?_
  refine T_tn ?_
  refine wp_seq ?_
  refine W_region ?_
  refine L (D_v (R_assign rfl) ?_)
  refine S_nil ?_
  refine T_tn ?_
  refine wp_seq ?_
  refine W_region ?_
  refine L (D_v (R_assign rfl) ?_)
  refine S_nil ?_
  refine T_tn ?_
  refine wp_seq ?_
  refine wp_seq ?_
  refine W_region ?_
  refine L (D_v (R_assign rfl) ?_)
  refine S_nil ?_
  refine T_tn ?_
  refine wp_block ?_
  refine W_unroll 8 ?_
  refine W_round ?_
  refine wp_seq ?_
  refine wp_seq ?_
  refine W_region ?_
  refine L (D_v (R_move rfl) ?_)
  refine L (D_v (R_cast (v' := .bool true) (R_lssI rfl rfl) rfl) ?_)
  refine S_nil ?_
  refine T_tn ?_
  refine W_ift rfl ?_
  refine wp_skip ?_
  refine T_tn ?_
  refine wp_seq ?_
  refine wp_block ?_
  refine wp_seq ?_
  refine W_held (fun W => Ext w W ∧ Blk W aB1_0 (m).l 24 ∧ True) mixed (fun w6_99 e6_99 => ?_)
  replace hE := hE.trans e6_99
  replace hB1_0 := hB1_0.ext e6_99
  refine H_take (i := 0) rfl (by kernel_rfl) (by kernel_rfl) (by kernel_rfl) rfl (pq_then (pq_block (pq_then (pq_then (pq_block (pq_then pq_body)))))) ⟨hE, hB1_0, trivial⟩ rfl (fun w hw => R_move rfl) ?_
  refine H_take (i := 1) rfl (by kernel_rfl) (by kernel_rfl) (by kernel_rfl) rfl (pq_then (pq_block (pq_then (pq_then (pq_block (pq_then pq_body)))))) ⟨hE, hB1_0, trivial⟩ rfl (fun w hw => R_move rfl) ?_
  refine H_take (i := 2) rfl (by kernel_rfl) (by kernel_rfl) (by kernel_rfl) rfl (pq_then (pq_block (pq_then (pq_then (pq_block (pq_then pq_body)))))) ⟨hE, hB1_0, trivial⟩ rfl (fun w hw => R_indexAddrA Try.runUnderlying24 Try.sizeOf5 rfl rfl (by decide) (by decide)) ?_
  refine H_take (i := 3) rfl (by kernel_rfl) (by kernel_rfl) (by kernel_rfl) rfl (pq_then (pq_block (pq_then (pq_then (pq_block (pq_then pq_body)))))) ⟨hE, hB1_0, trivial⟩ rfl (fun w hw => R_load Try.isAgg5 hw.2.1 rfl rfl) ?_
  refine H_take (i := 4) rfl (by kernel_rfl) (by kernel_rfl) (by kernel_rfl) rfl (pq_then (pq_block (pq_then (pq_then (pq_block (pq_then pq_body)))))) ⟨hE, hB1_0, trivial⟩ rfl (fun w hw => R_shrB rfl rfl) ?_
  refine H_take (i := 5) rfl (by kernel_rfl) (by kernel_rfl) (by kernel_rfl) rfl (pq_then (pq_block (pq_then (pq_then (pq_block (pq_then pq_body)))))) ⟨hE, hB1_0, trivial⟩ rfl (fun w hw => R_convN (e := ((m).b0.toNat / 16)) Try.runUnderlying5 Try.runUnderlying3 rfl (by (try simp only [List.length_take, List.length_drop, List.length_append, List.length_cons, List.length_nil, List.length_replicate, List.length_set, Nm.b_len, be2_len]); omega)) ?_
  refine H_take (i := 6) rfl (by kernel_rfl) (by kernel_rfl) (by kernel_rfl) rfl (pq_then (pq_block (pq_then (pq_then (pq_block (pq_then pq_body)))))) ⟨hE, hB1_0, trivial⟩ rfl (fun w hw => R_move rfl) ?_
  refine H_take (i := 7) rfl (by kernel_rfl) (by kernel_rfl) (by kernel_rfl) rfl (pq_then (pq_block (pq_then (pq_then (pq_block (pq_then pq_body)))))) ⟨hE, hB1_0, trivial⟩ rfl (fun w hw => R_indexAddrA Try.runUnderlying24 Try.sizeOf5 rfl rfl (by decide) (by decide)) ?_
  refine H_take (i := 8) rfl (by kernel_rfl) (by kernel_rfl) (by kernel_rfl) rfl (pq_then (pq_block (pq_then (pq_then (pq_block (pq_then pq_body)))))) ⟨hE, hB1_0, trivial⟩ rfl (fun w hw => R_load Try.isAgg5 hw.2.1 rfl rfl) ?_
  refine H_take (i := 9) rfl (by kernel_rfl) (by kernel_rfl) (by kernel_rfl) rfl (pq_then (pq_block (pq_then (pq_then (pq_block (pq_then pq_body)))))) ⟨hE, hB1_0, trivial⟩ rfl (fun w hw => R_andB rfl rfl) ?_
  refine H_take (i := 10) rfl (by kernel_rfl) (by kernel_rfl) (by kernel_rfl) rfl (pq_then (pq_block (pq_then (pq_then (pq_block (pq_then pq_body)))))) ⟨hE, hB1_0, trivial⟩ rfl (fun w hw => R_convN (e := ((m).b0.toNat % 16)) Try.runUnderlying5 Try.runUnderlying3 rfl (by (try simp only [List.length_take, List.length_drop, List.length_append, List.length_cons, List.length_nil, List.length_replicate, List.length_set, Nm.b_len, be2_len]); omega)) ?_
  refine H_op (i := 11) (by kernel_rfl) rfl rfl (D_buildI2 (lo := w.heap.size) (a := ((m).b0.toNat / 16)) (b := ((m).b0.toNat % 16)) Try.underlying161 Try.sizeOf3 Try.zeroValue3 (mapp2 rfl rfl) (fun v6_11 w6_11 o6_11 e6_11 => ?_))
  replace o6_11 := o6_11.low hE.size
  replace hE := hE.trans e6_11
  replace hB1_0 := hB1_0.ext e6_11
  refine ⟨⟨hE, hB1_0, trivial⟩, ?_⟩
  have o6_12n := Ow.nil cI w.heap.size w.heap.size w6_11
  refine H_op (i := 12) (by kernel_rfl) rfl rfl (D_appendL elt3 Try.underlying161 rfl rfl o6_12n (Nat.le_refl _) o6_11.ls (by (try simp only [List.length_take, List.length_drop, List.length_append, List.length_cons, List.length_nil, List.length_replicate, List.length_set, Nm.b_len, be2_len]); omega) (by (try simp only [List.length_take, List.length_drop, List.length_append, List.length_cons, List.length_nil, List.length_replicate, List.length_set, Nm.b_len, be2_len]); omega) hE.size (fun v6_12 w6_12 o6_12 g6_12 f6_12 sv6_12 => ?_))
  have zv6_11_v6_12 : ∀ k, Value.ownBlock v6_11 = some k → Value.ownBlock v6_12 ≠ some k := fun k hk2 hk => (sv6_12 _ hk).elim (fun h => nomatch (show (none : Option Nat) = some _ from h)) (fun h => absurd h (Nat.not_le.2 (own_lt o6_11.1 hk2)))
  have zv6_12_v6_11 := fun k hk hk2 => zv6_11_v6_12 k hk2 hk
  replace hE := hE.grown g6_12 (fun k hk => own_ge o6_12n.1 hk)
  replace hB1_0 := hB1_0.grown g6_12 (own_neB o6_12n.1 hB1_0 rfl)
  refine ⟨⟨hE, hB1_0, trivial⟩, ?_⟩
  refine H_take (i := 13) rfl (by kernel_rfl) (by kernel_rfl) (by kernel_rfl) rfl (pq_then (pq_block (pq_then (pq_then (pq_block (pq_then pq_body)))))) ⟨hE, hB1_0, trivial⟩ rfl (fun w hw => R_assign rfl) ?_
  refine H_done (by kernel_rfl) ?_
  refine T_tn ?_
  refine W_draw mixed (by kernel_rfl) ?_
  refine Q_v (fun w hw => R_move rfl) ?_
  refine Q_v (fun w hw => R_move rfl) ?_
  refine Q_v (fun w hw => R_indexAddrA Try.runUnderlying24 Try.sizeOf5 rfl rfl (by decide) (by decide)) ?_
  refine Q_v (fun w hw => R_load Try.isAgg5 (hB1_0.ext hw) rfl rfl) ?_
  refine Q_v (fun w hw => R_shrB rfl rfl) ?_
  refine Q_v (fun w hw => R_convN (e := ((m).b0.toNat / 16)) Try.runUnderlying5 Try.runUnderlying3 rfl (by (try simp only [List.length_take, List.length_drop, List.length_append, List.length_cons, List.length_nil, List.length_replicate, List.length_set, Nm.b_len, be2_len]); omega)) ?_
  refine Q_v (fun w hw => R_subN (m := 240) (j := ((m).b0.toNat / 16)) rfl rfl (by (try simp only [List.length_take, List.length_drop, List.length_append, List.length_cons, List.length_nil, List.length_replicate, List.length_set, Nm.b_len, be2_len]); omega) (by (try simp only [List.length_take, List.length_drop, List.length_append, List.length_cons, List.length_nil, List.length_replicate, List.length_set, Nm.b_len, be2_len]); omega)) ?_
  refine Q_v (fun w hw => R_move rfl) ?_
  refine Q_v (fun w hw => R_indexAddrA Try.runUnderlying24 Try.sizeOf5 rfl rfl (by decide) (by decide)) ?_
  refine Q_v (fun w hw => R_load Try.isAgg5 (hB1_0.ext hw) rfl rfl) ?_
  refine Q_v (fun w hw => R_andB rfl rfl) ?_
  refine Q_v (fun w hw => R_convN (e := ((m).b0.toNat % 16)) Try.runUnderlying5 Try.runUnderlying3 rfl (by (try simp only [List.length_take, List.length_drop, List.length_append, List.length_cons, List.length_nil, List.length_replicate, List.length_set, Nm.b_len, be2_len]); omega)) ?_
  refine Q_v (fun w hw => R_subN (m := (240 - ((m).b0.toNat / 16))) (j := ((m).b0.toNat % 16)) rfl rfl (by (try simp only [List.length_take, List.length_drop, List.length_append, List.length_cons, List.length_nil, List.length_replicate, List.length_set, Nm.b_len, be2_len]); omega) (by (try simp only [List.length_take, List.length_drop, List.length_append, List.length_cons, List.length_nil, List.length_replicate, List.length_set, Nm.b_len, be2_len]); omega)) ?_
  refine Q_v (fun w hw => R_assign rfl) ?_
  refine Q_nil (fun w7_99 e7_99 => ?_)
  replace hE := hE.trans e7_99
  replace hB1_0 := hB1_0.ext e7_99
  replace o6_12 := o6_12.ext e7_99
  refine T_bn ?_
  refine T_tn ?_
  refine W_region ?_
  refine L (D_v (R_move rfl) ?_)
  refine L (D_v (R_cast (v' := .int .i64 (1)) (R_addI rfl rfl) rfl) ?_)
  refine L (D_v (R_assign rfl) ?_)
  refine S_nil ?_
  refine T_tn ?_
  refine W_round ?_
  refine wp_seq ?_
  refine wp_seq ?_
  refine W_region ?_
  refine L (D_v (R_move rfl) ?_)
  refine L (D_v (R_cast (v' := .bool true) (R_lssI rfl rfl) rfl) ?_)
  refine S_nil ?_
  refine T_tn ?_
  refine W_ift rfl ?_
  refine wp_skip ?_
  refine T_tn ?_
  refine wp_seq ?_
  refine wp_block ?_
  refine wp_seq ?_
  refine W_held (fun W => Ext w W ∧ Blk W aB1_0 (m).l 24 ∧ True) mixed (fun w10_99 e10_99 => ?_)
  replace hE := hE.trans e10_99
  replace hB1_0 := hB1_0.ext e10_99
  replace o6_12 := o6_12.ext e10_99
  refine H_take (i := 0) rfl (by kernel_rfl) (by kernel_rfl) (by kernel_rfl) rfl (pq_then (pq_block (pq_then (pq_then (pq_block (pq_then pq_body)))))) ⟨hE, hB1_0, trivial⟩ rfl (fun w hw => R_move rfl) ?_
  refine H_take (i := 1) rfl (by kernel_rfl) (by kernel_rfl) (by kernel_rfl) rfl (pq_then (pq_block (pq_then (pq_then (pq_block (pq_then pq_body)))))) ⟨hE, hB1_0, trivial⟩ rfl (fun w hw => R_move rfl) ?_
  refine H_take (i := 2) rfl (by kernel_rfl) (by kernel_rfl) (by kernel_rfl) rfl (pq_then (pq_block (pq_then (pq_then (pq_block (pq_then pq_body)))))) ⟨hE, hB1_0, trivial⟩ rfl (fun w hw => R_indexAddrA Try.runUnderlying24 Try.sizeOf5 rfl rfl (by decide) (by decide)) ?_
  refine H_take (i := 3) rfl (by kernel_rfl) (by kernel_rfl) (by kernel_rfl) rfl (pq_then (pq_block (pq_then (pq_then (pq_block (pq_then pq_body)))))) ⟨hE, hB1_0, trivial⟩ rfl (fun w hw => R_load Try.isAgg5 hw.2.1 rfl rfl) ?_
  refine H_take (i := 4) rfl (by kernel_rfl) (by kernel_rfl) (by kernel_rfl) rfl (pq_then (pq_block (pq_then (pq_then (pq_block (pq_then pq_body)))))) ⟨hE, hB1_0, trivial⟩ rfl (fun w hw => R_shrB rfl rfl) ?_
  refine H_take (i := 5) rfl (by kernel_rfl) (by kernel_rfl) (by kernel_rfl) rfl (pq_then (pq_block (pq_then (pq_then (pq_block (pq_then pq_body)))))) ⟨hE, hB1_0, trivial⟩ rfl (fun w hw => R_convN (e := ((m).b1.toNat / 16)) Try.runUnderlying5 Try.runUnderlying3 rfl (by (try simp only [List.length_take, List.length_drop, List.length_append, List.length_cons, List.length_nil, List.length_replicate, List.length_set, Nm.b_len, be2_len]); omega)) ?_
  refine H_take (i := 6) rfl (by kernel_rfl) (by kernel_rfl) (by kernel_rfl) rfl (pq_then (pq_block (pq_then (pq_then (pq_block (pq_then pq_body)))))) ⟨hE, hB1_0, trivial⟩ rfl (fun w hw => R_move rfl) ?_
  refine H_take (i := 7) rfl (by kernel_rfl) (by kernel_rfl) (by kernel_rfl) rfl (pq_then (pq_block (pq_then (pq_then (pq_block (pq_then pq_body)))))) ⟨hE, hB1_0, trivial⟩ rfl (fun w hw => R_indexAddrA Try.runUnderlying24 Try.sizeOf5 rfl rfl (by decide) (by decide)) ?_
  refine H_take (i := 8) rfl (by kernel_rfl) (by kernel_rfl) (by kernel_rfl) rfl (pq_then (pq_block (pq_then (pq_then (pq_block (pq_then pq_body)))))) ⟨hE, hB1_0, trivial⟩ rfl (fun w hw => R_load Try.isAgg5 hw.2.1 rfl rfl) ?_
  refine H_take (i := 9) rfl (by kernel_rfl) (by kernel_rfl) (by kernel_rfl) rfl (pq_then (pq_block (pq_then (pq_then (pq_block (pq_then pq_body)))))) ⟨hE, hB1_0, trivial⟩ rfl (fun w hw => R_andB rfl rfl) ?_
  refine H_take (i := 10) rfl (by kernel_rfl) (by kernel_rfl) (by kernel_rfl) rfl (pq_then (pq_block (pq_then (pq_then (pq_block (pq_then pq_body)))))) ⟨hE, hB1_0, trivial⟩ rfl (fun w hw => R_convN (e := ((m).b1.toNat % 16)) Try.runUnderlying5 Try.runUnderlying3 rfl (by (try simp only [List.length_take, List.length_drop, List.length_append, List.length_cons, List.length_nil, List.length_replicate, List.length_set, Nm.b_len, be2_len]); omega)) ?_
  refine H_op (i := 11) (by kernel_rfl) rfl rfl (D_buildI2 (lo := w.heap.size) (a := ((m).b1.toNat / 16)) (b := ((m).b1.toNat % 16)) Try.underlying161 Try.sizeOf3 Try.zeroValue3 (mapp2 rfl rfl) (fun v10_11 w10_11 o10_11 e10_11 => ?_))
  have zv6_12_v10_11 := own_apart o6_12.1 o10_11.1
  have zv10_11_v6_12 := fun k hk hk2 => zv6_12_v10_11 k hk2 hk
  replace o10_11 := o10_11.low hE.size
  replace hE := hE.trans e10_11
  replace hB1_0 := hB1_0.ext e10_11
  replace o6_12 := o6_12.ext e10_11
  refine ⟨⟨hE, hB1_0, trivial⟩, ?_⟩
  refine H_op (i := 12) (by kernel_rfl) rfl rfl (D_appendL elt3 Try.underlying161 rfl rfl o6_12 (Nat.le_refl _) o10_11.ls (by (try simp only [List.length_take, List.length_drop, List.length_append, List.length_cons, List.length_nil, List.length_replicate, List.length_set, Nm.b_len, be2_len]); omega) (by (try simp only [List.length_take, List.length_drop, List.length_append, List.length_cons, List.length_nil, List.length_replicate, List.length_set, Nm.b_len, be2_len]); omega) hE.size (fun v10_12 w10_12 o10_12 g10_12 f10_12 sv10_12 => ?_))
  have zv10_11_v10_12 : ∀ k, Value.ownBlock v10_11 = some k → Value.ownBlock v10_12 ≠ some k := fun k hk2 hk => (sv10_12 _ hk).elim (fun h => zv10_11_v6_12 k hk2 h) (fun h => absurd h (Nat.not_le.2 (own_lt o10_11.1 hk2)))
  have zv10_12_v10_11 := fun k hk hk2 => zv10_11_v10_12 k hk2 hk
  replace hE := hE.grown g10_12 (fun k hk => own_ge o6_12.1 hk)
  replace hB1_0 := hB1_0.grown g10_12 (own_neB o6_12.1 hB1_0 rfl)
  replace o10_11 := o10_11.grown g10_12 (zv10_11_v6_12) f10_12
  refine ⟨⟨hE, hB1_0, trivial⟩, ?_⟩
  refine H_take (i := 13) rfl (by kernel_rfl) (by kernel_rfl) (by kernel_rfl) rfl (pq_then (pq_block (pq_then (pq_then (pq_block (pq_then pq_body)))))) ⟨hE, hB1_0, trivial⟩ rfl (fun w hw => R_assign rfl) ?_
  refine H_done (by kernel_rfl) ?_
  refine T_tn ?_
  refine W_draw mixed (by kernel_rfl) ?_
  refine Q_v (fun w hw => R_move rfl) ?_
  refine Q_v (fun w hw => R_move rfl) ?_
  refine Q_v (fun w hw => R_indexAddrA Try.runUnderlying24 Try.sizeOf5 rfl rfl (by decide) (by decide)) ?_
  refine Q_v (fun w hw => R_load Try.isAgg5 (hB1_0.ext hw) rfl rfl) ?_
  refine Q_v (fun w hw => R_shrB rfl rfl) ?_
  refine Q_v (fun w hw => R_convN (e := ((m).b1.toNat / 16)) Try.runUnderlying5 Try.runUnderlying3 rfl (by (try simp only [List.length_take, List.length_drop, List.length_append, List.length_cons, List.length_nil, List.length_replicate, List.length_set, Nm.b_len, be2_len]); omega)) ?_
  refine Q_v (fun w hw => R_subN (m := ((240 - ((m).b0.toNat / 16)) - ((m).b0.toNat % 16))) (j := ((m).b1.toNat / 16)) rfl rfl (by (try simp only [List.length_take, List.length_drop, List.length_append, List.length_cons, List.length_nil, List.length_replicate, List.length_set, Nm.b_len, be2_len]); omega) (by (try simp only [List.length_take, List.length_drop, List.length_append, List.length_cons, List.length_nil, List.length_replicate, List.length_set, Nm.b_len, be2_len]); omega)) ?_
  refine Q_v (fun w hw => R_move rfl) ?_
  refine Q_v (fun w hw => R_indexAddrA Try.runUnderlying24 Try.sizeOf5 rfl rfl (by decide) (by decide)) ?_
  refine Q_v (fun w hw => R_load Try.isAgg5 (hB1_0.ext hw) rfl rfl) ?_
  refine Q_v (fun w hw => R_andB rfl rfl) ?_
  refine Q_v (fun w hw => R_convN (e := ((m).b1.toNat % 16)) Try.runUnderlying5 Try.runUnderlying3 rfl (by (try simp only [List.length_take, List.length_drop, List.length_append, List.length_cons, List.length_nil, List.length_replicate, List.length_set, Nm.b_len, be2_len]); omega)) ?_
  refine Q_v (fun w hw => R_subN (m := (((240 - ((m).b0.toNat / 16)) - ((m).b0.toNat % 16)) - ((m).b1.toNat / 16))) (j := ((m).b1.toNat % 16)) rfl rfl (by (try simp only [List.length_take, List.length_drop, List.length_append, List.length_cons, List.length_nil, List.length_replicate, List.length_set, Nm.b_len, be2_len]); omega) (by (try simp only [List.length_take, List.length_drop, List.length_append, List.length_cons, List.length_nil, List.length_replicate, List.length_set, Nm.b_len, be2_len]); omega)) ?_
  refine Q_v (fun w hw => R_assign rfl) ?_
  refine Q_nil (fun w11_99 e11_99 => ?_)
  replace hE := hE.trans e11_99
  replace hB1_0 := hB1_0.ext e11_99
  replace o10_12 := o10_12.ext e11_99
  refine T_bn ?_
  refine T_tn ?_
  refine W_region ?_
  refine L (D_v (R_move rfl) ?_)
  refine L (D_v (R_cast (v' := .int .i64 (2)) (R_addI rfl rfl) rfl) ?_)
  refine L (D_v (R_assign rfl) ?_)
  refine S_nil ?_
  refine T_tn ?_
  refine W_round ?_
  refine wp_seq ?_
  refine wp_seq ?_
  refine W_region ?_
  refine L (D_v (R_move rfl) ?_)
  refine L (D_v (R_cast (v' := .bool true) (R_lssI rfl rfl) rfl) ?_)
  refine S_nil ?_
  refine T_tn ?_
  refine W_ift rfl ?_
  refine wp_skip ?_
  refine T_tn ?_
  refine wp_seq ?_
  refine wp_block ?_
  refine wp_seq ?_
  refine W_held (fun W => Ext w W ∧ Blk W aB1_0 (m).l 24 ∧ True) mixed (fun w14_99 e14_99 => ?_)
  replace hE := hE.trans e14_99
  replace hB1_0 := hB1_0.ext e14_99
  replace o10_12 := o10_12.ext e14_99
  refine H_take (i := 0) rfl (by kernel_rfl) (by kernel_rfl) (by kernel_rfl) rfl (pq_then (pq_block (pq_then (pq_then (pq_block (pq_then pq_body)))))) ⟨hE, hB1_0, trivial⟩ rfl (fun w hw => R_move rfl) ?_
  refine H_take (i := 1) rfl (by kernel_rfl) (by kernel_rfl) (by kernel_rfl) rfl (pq_then (pq_block (pq_then (pq_then (pq_block (pq_then pq_body)))))) ⟨hE, hB1_0, trivial⟩ rfl (fun w hw => R_move rfl) ?_
  refine H_take (i := 2) rfl (by kernel_rfl) (by kernel_rfl) (by kernel_rfl) rfl (pq_then (pq_block (pq_then (pq_then (pq_block (pq_then pq_body)))))) ⟨hE, hB1_0, trivial⟩ rfl (fun w hw => R_indexAddrA Try.runUnderlying24 Try.sizeOf5 rfl rfl (by decide) (by decide)) ?_
  refine H_take (i := 3) rfl (by kernel_rfl) (by kernel_rfl) (by kernel_rfl) rfl (pq_then (pq_block (pq_then (pq_then (pq_block (pq_then pq_body)))))) ⟨hE, hB1_0, trivial⟩ rfl (fun w hw => R_load Try.isAgg5 hw.2.1 rfl rfl) ?_
  refine H_take (i := 4) rfl (by kernel_rfl) (by kernel_rfl) (by kernel_rfl) rfl (pq_then (pq_block (pq_then (pq_then (pq_block (pq_then pq_body)))))) ⟨hE, hB1_0, trivial⟩ rfl (fun w hw => R_shrB rfl rfl) ?_
  refine H_take (i := 5) rfl (by kernel_rfl) (by kernel_rfl) (by kernel_rfl) rfl (pq_then (pq_block (pq_then (pq_then (pq_block (pq_then pq_body)))))) ⟨hE, hB1_0, trivial⟩ rfl (fun w hw => R_convN (e := ((m).b2.toNat / 16)) Try.runUnderlying5 Try.runUnderlying3 rfl (by (try simp only [List.length_take, List.length_drop, List.length_append, List.length_cons, List.length_nil, List.length_replicate, List.length_set, Nm.b_len, be2_len]); omega)) ?_
  refine H_take (i := 6) rfl (by kernel_rfl) (by kernel_rfl) (by kernel_rfl) rfl (pq_then (pq_block (pq_then (pq_then (pq_block (pq_then pq_body)))))) ⟨hE, hB1_0, trivial⟩ rfl (fun w hw => R_move rfl) ?_
  refine H_take (i := 7) rfl (by kernel_rfl) (by kernel_rfl) (by kernel_rfl) rfl (pq_then (pq_block (pq_then (pq_then (pq_block (pq_then pq_body)))))) ⟨hE, hB1_0, trivial⟩ rfl (fun w hw => R_indexAddrA Try.runUnderlying24 Try.sizeOf5 rfl rfl (by decide) (by decide)) ?_
  refine H_take (i := 8) rfl (by kernel_rfl) (by kernel_rfl) (by kernel_rfl) rfl (pq_then (pq_block (pq_then (pq_then (pq_block (pq_then pq_body)))))) ⟨hE, hB1_0, trivial⟩ rfl (fun w hw => R_load Try.isAgg5 hw.2.1 rfl rfl) ?_
  refine H_take (i := 9) rfl (by kernel_rfl) (by kernel_rfl) (by kernel_rfl) rfl (pq_then (pq_block (pq_then (pq_then (pq_block (pq_then pq_body)))))) ⟨hE, hB1_0, trivial⟩ rfl (fun w hw => R_andB rfl rfl) ?_
  refine H_take (i := 10) rfl (by kernel_rfl) (by kernel_rfl) (by kernel_rfl) rfl (pq_then (pq_block (pq_then (pq_then (pq_block (pq_then pq_body)))))) ⟨hE, hB1_0, trivial⟩ rfl (fun w hw => R_convN (e := ((m).b2.toNat % 16)) Try.runUnderlying5 Try.runUnderlying3 rfl (by (try simp only [List.length_take, List.length_drop, List.length_append, List.length_cons, List.length_nil, List.length_replicate, List.length_set, Nm.b_len, be2_len]); omega)) ?_
  refine H_op (i := 11) (by kernel_rfl) rfl rfl (D_buildI2 (lo := w.heap.size) (a := ((m).b2.toNat / 16)) (b := ((m).b2.toNat % 16)) Try.underlying161 Try.sizeOf3 Try.zeroValue3 (mapp2 rfl rfl) (fun v14_11 w14_11 o14_11 e14_11 => ?_))
  have zv10_12_v14_11 := own_apart o10_12.1 o14_11.1
  have zv14_11_v10_12 := fun k hk hk2 => zv10_12_v14_11 k hk2 hk
  replace o14_11 := o14_11.low hE.size
  replace hE := hE.trans e14_11
  replace hB1_0 := hB1_0.ext e14_11
  replace o10_12 := o10_12.ext e14_11
  refine ⟨⟨hE, hB1_0, trivial⟩, ?_⟩
  refine H_op (i := 12) (by kernel_rfl) rfl rfl (D_appendL elt3 Try.underlying161 rfl rfl o10_12 (Nat.le_refl _) o14_11.ls (by (try simp only [List.length_take, List.length_drop, List.length_append, List.length_cons, List.length_nil, List.length_replicate, List.length_set, Nm.b_len, be2_len]); omega) (by (try simp only [List.length_take, List.length_drop, List.length_append, List.length_cons, List.length_nil, List.length_replicate, List.length_set, Nm.b_len, be2_len]); omega) hE.size (fun v14_12 w14_12 o14_12 g14_12 f14_12 sv14_12 => ?_))
  have zv14_11_v14_12 : ∀ k, Value.ownBlock v14_11 = some k → Value.ownBlock v14_12 ≠ some k := fun k hk2 hk => (sv14_12 _ hk).elim (fun h => zv14_11_v10_12 k hk2 h) (fun h => absurd h (Nat.not_le.2 (own_lt o14_11.1 hk2)))
  have zv14_12_v14_11 := fun k hk hk2 => zv14_11_v14_12 k hk2 hk
  replace hE := hE.grown g14_12 (fun k hk => own_ge o10_12.1 hk)
  replace hB1_0 := hB1_0.grown g14_12 (own_neB o10_12.1 hB1_0 rfl)
  replace o14_11 := o14_11.grown g14_12 (zv14_11_v10_12) f14_12
  refine ⟨⟨hE, hB1_0, trivial⟩, ?_⟩
  refine H_take (i := 13) rfl (by kernel_rfl) (by kernel_rfl) (by kernel_rfl) rfl (pq_then (pq_block (pq_then (pq_then (pq_block (pq_then pq_body)))))) ⟨hE, hB1_0, trivial⟩ rfl (fun w hw => R_assign rfl) ?_
  refine H_done (by kernel_rfl) ?_
  refine T_tn ?_
  refine W_draw mixed (by kernel_rfl) ?_
  refine Q_v (fun w hw => R_move rfl) ?_
  refine Q_v (fun w hw => R_move rfl) ?_
  refine Q_v (fun w hw => R_indexAddrA Try.runUnderlying24 Try.sizeOf5 rfl rfl (by decide) (by decide)) ?_
  refine Q_v (fun w hw => R_load Try.isAgg5 (hB1_0.ext hw) rfl rfl) ?_
  refine Q_v (fun w hw => R_shrB rfl rfl) ?_
  refine Q_v (fun w hw => R_convN (e := ((m).b2.toNat / 16)) Try.runUnderlying5 Try.runUnderlying3 rfl (by (try simp only [List.length_take, List.length_drop, List.length_append, List.length_cons, List.length_nil, List.length_replicate, List.length_set, Nm.b_len, be2_len]); omega)) ?_
  refine Q_v (fun w hw => R_subN (m := ((((240 - ((m).b0.toNat / 16)) - ((m).b0.toNat % 16)) - ((m).b1.toNat / 16)) - ((m).b1.toNat % 16))) (j := ((m).b2.toNat / 16)) rfl rfl (by (try simp only [List.length_take, List.length_drop, List.length_append, List.length_cons, List.length_nil, List.length_replicate, List.length_set, Nm.b_len, be2_len]); omega) (by (try simp only [List.length_take, List.length_drop, List.length_append, List.length_cons, List.length_nil, List.length_replicate, List.length_set, Nm.b_len, be2_len]); omega)) ?_
  refine Q_v (fun w hw => R_move rfl) ?_
  refine Q_v (fun w hw => R_indexAddrA Try.runUnderlying24 Try.sizeOf5 rfl rfl (by decide) (by decide)) ?_
  refine Q_v (fun w hw => R_load Try.isAgg5 (hB1_0.ext hw) rfl rfl) ?_
  refine Q_v (fun w hw => R_andB rfl rfl) ?_
  refine Q_v (fun w hw => R_convN (e := ((m).b2.toNat % 16)) Try.runUnderlying5 Try.runUnderlying3 rfl (by (try simp only [List.length_take, List.length_drop, List.length_append, List.length_cons, List.length_nil, List.length_replicate, List.length_set, Nm.b_len, be2_len]); omega)) ?_
  refine Q_v (fun w hw => R_subN (m := (((((240 - ((m).b0.toNat / 16)) - ((m).b0.toNat % 16)) - ((m).b1.toNat / 16)) - ((m).b1.toNat % 16)) - ((m).b2.toNat / 16))) (j := ((m).b2.toNat % 16)) rfl rfl (by (try simp only [List.length_take, List.length_drop, List.length_append, List.length_cons, List.length_nil, List.length_replicate, List.length_set, Nm.b_len, be2_len]); omega) (by (try simp only [List.length_take, List.length_drop, List.length_append, List.length_cons, List.length_nil, List.length_replicate, List.length_set, Nm.b_len, be2_len]); omega)) ?_
  refine Q_v (fun w hw => R_assign rfl) ?_
  refine Q_nil (fun w15_99 e15_99 => ?_)
  replace hE := hE.trans e15_99
  replace hB1_0 := hB1_0.ext e15_99
  replace o14_12 := o14_12.ext e15_99
  refine T_bn ?_
  refine T_tn ?_
  refine W_region ?_
  refine L (D_v (R_move rfl) ?_)
  refine L (D_v (R_cast (v' := .int .i64 (3)) (R_addI rfl rfl) rfl) ?_)
  refine L (D_v (R_assign rfl) ?_)
  refine S_nil ?_
  refine T_tn ?_
  refine W_round ?_
  refine wp_seq ?_
  refine wp_seq ?_
  refine W_region ?_
  refine L (D_v (R_move rfl) ?_)
  refine L (D_v (R_cast (v' := .bool true) (R_lssI rfl rfl) rfl) ?_)
  refine S_nil ?_
  refine T_tn ?_
  refine W_ift rfl ?_
  refine wp_skip ?_
  refine T_tn ?_
  refine wp_seq ?_
  refine wp_block ?_
  refine wp_seq ?_
  refine W_held (fun W => Ext w W ∧ Blk W aB1_0 (m).l 24 ∧ True) mixed (fun w18_99 e18_99 => ?_)
  replace hE := hE.trans e18_99
  replace hB1_0 := hB1_0.ext e18_99
  replace o14_12 := o14_12.ext e18_99
  refine H_take (i := 0) rfl (by kernel_rfl) (by kernel_rfl) (by kernel_rfl) rfl (pq_then (pq_block (pq_then (pq_then (pq_block (pq_then pq_body)))))) ⟨hE, hB1_0, trivial⟩ rfl (fun w hw => R_move rfl) ?_
  refine H_take (i := 1) rfl (by kernel_rfl) (by kernel_rfl) (by kernel_rfl) rfl (pq_then (pq_block (pq_then (pq_then (pq_block (pq_then pq_body)))))) ⟨hE, hB1_0, trivial⟩ rfl (fun w hw => R_move rfl) ?_
  refine H_take (i := 2) rfl (by kernel_rfl) (by kernel_rfl) (by kernel_rfl) rfl (pq_then (pq_block (pq_then (pq_then (pq_block (pq_then pq_body)))))) ⟨hE, hB1_0, trivial⟩ rfl (fun w hw => R_indexAddrA Try.runUnderlying24 Try.sizeOf5 rfl rfl (by decide) (by decide)) ?_
  refine H_take (i := 3) rfl (by kernel_rfl) (by kernel_rfl) (by kernel_rfl) rfl (pq_then (pq_block (pq_then (pq_then (pq_block (pq_then pq_body)))))) ⟨hE, hB1_0, trivial⟩ rfl (fun w hw => R_load Try.isAgg5 hw.2.1 rfl rfl) ?_
  refine H_take (i := 4) rfl (by kernel_rfl) (by kernel_rfl) (by kernel_rfl) rfl (pq_then (pq_block (pq_then (pq_then (pq_block (pq_then pq_body)))))) ⟨hE, hB1_0, trivial⟩ rfl (fun w hw => R_shrB rfl rfl) ?_
  refine H_take (i := 5) rfl (by kernel_rfl) (by kernel_rfl) (by kernel_rfl) rfl (pq_then (pq_block (pq_then (pq_then (pq_block (pq_then pq_body)))))) ⟨hE, hB1_0, trivial⟩ rfl (fun w hw => R_convN (e := ((m).b3.toNat / 16)) Try.runUnderlying5 Try.runUnderlying3 rfl (by (try simp only [List.length_take, List.length_drop, List.length_append, List.length_cons, List.length_nil, List.length_replicate, List.length_set, Nm.b_len, be2_len]); omega)) ?_
  refine H_take (i := 6) rfl (by kernel_rfl) (by kernel_rfl) (by kernel_rfl) rfl (pq_then (pq_block (pq_then (pq_then (pq_block (pq_then pq_body)))))) ⟨hE, hB1_0, trivial⟩ rfl (fun w hw => R_move rfl) ?_
  refine H_take (i := 7) rfl (by kernel_rfl) (by kernel_rfl) (by kernel_rfl) rfl (pq_then (pq_block (pq_then (pq_then (pq_block (pq_then pq_body)))))) ⟨hE, hB1_0, trivial⟩ rfl (fun w hw => R_indexAddrA Try.runUnderlying24 Try.sizeOf5 rfl rfl (by decide) (by decide)) ?_
  refine H_take (i := 8) rfl (by kernel_rfl) (by kernel_rfl) (by kernel_rfl) rfl (pq_then (pq_block (pq_then (pq_then (pq_block (pq_then pq_body)))))) ⟨hE, hB1_0, trivial⟩ rfl (fun w hw => R_load Try.isAgg5 hw.2.1 rfl rfl) ?_
  refine H_take (i := 9) rfl (by kernel_rfl) (by kernel_rfl) (by kernel_rfl) rfl (pq_then (pq_block (pq_then (pq_then (pq_block (pq_then pq_body)))))) ⟨hE, hB1_0, trivial⟩ rfl (fun w hw => R_andB rfl rfl) ?_
  refine H_take (i := 10) rfl (by kernel_rfl) (by kernel_rfl) (by kernel_rfl) rfl (pq_then (pq_block (pq_then (pq_then (pq_block (pq_then pq_body)))))) ⟨hE, hB1_0, trivial⟩ rfl (fun w hw => R_convN (e := ((m).b3.toNat % 16)) Try.runUnderlying5 Try.runUnderlying3 rfl (by (try simp only [List.length_take, List.length_drop, List.length_append, List.length_cons, List.length_nil, List.length_replicate, List.length_set, Nm.b_len, be2_len]); omega)) ?_
  refine H_op (i := 11) (by kernel_rfl) rfl rfl (D_buildI2 (lo := w.heap.size) (a := ((m).b3.toNat / 16)) (b := ((m).b3.toNat % 16)) Try.underlying161 Try.sizeOf3 Try.zeroValue3 (mapp2 rfl rfl) (fun v18_11 w18_11 o18_11 e18_11 => ?_))
  have zv14_12_v18_11 := own_apart o14_12.1 o18_11.1
  have zv18_11_v14_12 := fun k hk hk2 => zv14_12_v18_11 k hk2 hk
  replace o18_11 := o18_11.low hE.size
  replace hE := hE.trans e18_11
  replace hB1_0 := hB1_0.ext e18_11
  replace o14_12 := o14_12.ext e18_11
  refine ⟨⟨hE, hB1_0, trivial⟩, ?_⟩
  refine H_op (i := 12) (by kernel_rfl) rfl rfl (D_appendL elt3 Try.underlying161 rfl rfl o14_12 (Nat.le_refl _) o18_11.ls (by (try simp only [List.length_take, List.length_drop, List.length_append, List.length_cons, List.length_nil, List.length_replicate, List.length_set, Nm.b_len, be2_len]); omega) (by (try simp only [List.length_take, List.length_drop, List.length_append, List.length_cons, List.length_nil, List.length_replicate, List.length_set, Nm.b_len, be2_len]); omega) hE.size (fun v18_12 w18_12 o18_12 g18_12 f18_12 sv18_12 => ?_))
  have zv18_11_v18_12 : ∀ k, Value.ownBlock v18_11 = some k → Value.ownBlock v18_12 ≠ some k := fun k hk2 hk => (sv18_12 _ hk).elim (fun h => zv18_11_v14_12 k hk2 h) (fun h => absurd h (Nat.not_le.2 (own_lt o18_11.1 hk2)))
  have zv18_12_v18_11 := fun k hk hk2 => zv18_11_v18_12 k hk2 hk
  replace hE := hE.grown g18_12 (fun k hk => own_ge o14_12.1 hk)
  replace hB1_0 := hB1_0.grown g18_12 (own_neB o14_12.1 hB1_0 rfl)
  replace o18_11 := o18_11.grown g18_12 (zv18_11_v14_12) f18_12
  refine ⟨⟨hE, hB1_0, trivial⟩, ?_⟩
  refine H_take (i := 13) rfl (by kernel_rfl) (by kernel_rfl) (by kernel_rfl) rfl (pq_then (pq_block (pq_then (pq_then (pq_block (pq_then pq_body)))))) ⟨hE, hB1_0, trivial⟩ rfl (fun w hw => R_assign rfl) ?_
  refine H_done (by kernel_rfl) ?_
  refine T_tn ?_
  refine W_draw mixed (by kernel_rfl) ?_
  refine Q_v (fun w hw => R_move rfl) ?_
  refine Q_v (fun w hw => R_move rfl) ?_
  refine Q_v (fun w hw => R_indexAddrA Try.runUnderlying24 Try.sizeOf5 rfl rfl (by decide) (by decide)) ?_
  refine Q_v (fun w hw => R_load Try.isAgg5 (hB1_0.ext hw) rfl rfl) ?_
  refine Q_v (fun w hw => R_shrB rfl rfl) ?_
  refine Q_v (fun w hw => R_convN (e := ((m).b3.toNat / 16)) Try.runUnderlying5 Try.runUnderlying3 rfl (by (try simp only [List.length_take, List.length_drop, List.length_append, List.length_cons, List.length_nil, List.length_replicate, List.length_set, Nm.b_len, be2_len]); omega)) ?_
  refine Q_v (fun w hw => R_subN (m := ((((((240 - ((m).b0.toNat / 16)) - ((m).b0.toNat % 16)) - ((m).b1.toNat / 16)) - ((m).b1.toNat % 16)) - ((m).b2.toNat / 16)) - ((m).b2.toNat % 16))) (j := ((m).b3.toNat / 16)) rfl rfl (by (try simp only [List.length_take, List.length_drop, List.length_append, List.length_cons, List.length_nil, List.length_replicate, List.length_set, Nm.b_len, be2_len]); omega) (by (try simp only [List.length_take, List.length_drop, List.length_append, List.length_cons, List.length_nil, List.length_replicate, List.length_set, Nm.b_len, be2_len]); omega)) ?_
  refine Q_v (fun w hw => R_move rfl) ?_
  refine Q_v (fun w hw => R_indexAddrA Try.runUnderlying24 Try.sizeOf5 rfl rfl (by decide) (by decide)) ?_
  refine Q_v (fun w hw => R_load Try.isAgg5 (hB1_0.ext hw) rfl rfl) ?_
  refine Q_v (fun w hw => R_andB rfl rfl) ?_
  refine Q_v (fun w hw => R_convN (e := ((m).b3.toNat % 16)) Try.runUnderlying5 Try.runUnderlying3 rfl (by (try simp only [List.length_take, List.length_drop, List.length_append, List.length_cons, List.length_nil, List.length_replicate, List.length_set, Nm.b_len, be2_len]); omega)) ?_
  refine Q_v (fun w hw => R_subN (m := (((((((240 - ((m).b0.toNat / 16)) - ((m).b0.toNat % 16)) - ((m).b1.toNat / 16)) - ((m).b1.toNat % 16)) - ((m).b2.toNat / 16)) - ((m).b2.toNat % 16)) - ((m).b3.toNat / 16))) (j := ((m).b3.toNat % 16)) rfl rfl (by (try simp only [List.length_take, List.length_drop, List.length_append, List.length_cons, List.length_nil, List.length_replicate, List.length_set, Nm.b_len, be2_len]); omega) (by (try simp only [List.length_take, List.length_drop, List.length_append, List.length_cons, List.length_nil, List.length_replicate, List.length_set, Nm.b_len, be2_len]); omega)) ?_
  refine Q_v (fun w hw => R_assign rfl) ?_
  refine Q_nil (fun w19_99 e19_99 => ?_)
  replace hE := hE.trans e19_99
  replace hB1_0 := hB1_0.ext e19_99
  replace o18_12 := o18_12.ext e19_99
  refine T_bn ?_
  refine T_tn ?_
  refine W_region ?_
  refine L (D_v (R_move rfl) ?_)
  refine L (D_v (R_cast (v' := .int .i64 (4)) (R_addI rfl rfl) rfl) ?_)
  refine L (D_v (R_assign rfl) ?_)
  refine S_nil ?_
  refine T_tn ?_
  refine W_round ?_
  refine wp_seq ?_
  refine wp_seq ?_
  refine W_region ?_
  refine L (D_v (R_move rfl) ?_)
  refine L (D_v (R_cast (v' := .bool true) (R_lssI rfl rfl) rfl) ?_)
  refine S_nil ?_
  refine T_tn ?_
  refine W_ift rfl ?_
  refine wp_skip ?_
  refine T_tn ?_
  refine wp_seq ?_
  refine wp_block ?_
  refine wp_seq ?_
  refine W_held (fun W => Ext w W ∧ Blk W aB1_0 (m).l 24 ∧ True) mixed (fun w22_99 e22_99 => ?_)
  replace hE := hE.trans e22_99
  replace hB1_0 := hB1_0.ext e22_99
  replace o18_12 := o18_12.ext e22_99
  refine H_take (i := 0) rfl (by kernel_rfl) (by kernel_rfl) (by kernel_rfl) rfl (pq_then (pq_block (pq_then (pq_then (pq_block (pq_then pq_body)))))) ⟨hE, hB1_0, trivial⟩ rfl (fun w hw => R_move rfl) ?_
  refine H_take (i := 1) rfl (by kernel_rfl) (by kernel_rfl) (by kernel_rfl) rfl (pq_then (pq_block (pq_then (pq_then (pq_block (pq_then pq_body)))))) ⟨hE, hB1_0, trivial⟩ rfl (fun w hw => R_move rfl) ?_
  refine H_take (i := 2) rfl (by kernel_rfl) (by kernel_rfl) (by kernel_rfl) rfl (pq_then (pq_block (pq_then (pq_then (pq_block (pq_then pq_body)))))) ⟨hE, hB1_0, trivial⟩ rfl (fun w hw => R_indexAddrA Try.runUnderlying24 Try.sizeOf5 rfl rfl (by decide) (by decide)) ?_
  refine H_take (i := 3) rfl (by kernel_rfl) (by kernel_rfl) (by kernel_rfl) rfl (pq_then (pq_block (pq_then (pq_then (pq_block (pq_then pq_body)))))) ⟨hE, hB1_0, trivial⟩ rfl (fun w hw => R_load Try.isAgg5 hw.2.1 rfl rfl) ?_
  refine H_take (i := 4) rfl (by kernel_rfl) (by kernel_rfl) (by kernel_rfl) rfl (pq_then (pq_block (pq_then (pq_then (pq_block (pq_then pq_body)))))) ⟨hE, hB1_0, trivial⟩ rfl (fun w hw => R_shrB rfl rfl) ?_
  refine H_take (i := 5) rfl (by kernel_rfl) (by kernel_rfl) (by kernel_rfl) rfl (pq_then (pq_block (pq_then (pq_then (pq_block (pq_then pq_body)))))) ⟨hE, hB1_0, trivial⟩ rfl (fun w hw => R_convN (e := ((m).b4.toNat / 16)) Try.runUnderlying5 Try.runUnderlying3 rfl (by (try simp only [List.length_take, List.length_drop, List.length_append, List.length_cons, List.length_nil, List.length_replicate, List.length_set, Nm.b_len, be2_len]); omega)) ?_
  refine H_take (i := 6) rfl (by kernel_rfl) (by kernel_rfl) (by kernel_rfl) rfl (pq_then (pq_block (pq_then (pq_then (pq_block (pq_then pq_body)))))) ⟨hE, hB1_0, trivial⟩ rfl (fun w hw => R_move rfl) ?_
  refine H_take (i := 7) rfl (by kernel_rfl) (by kernel_rfl) (by kernel_rfl) rfl (pq_then (pq_block (pq_then (pq_then (pq_block (pq_then pq_body)))))) ⟨hE, hB1_0, trivial⟩ rfl (fun w hw => R_indexAddrA Try.runUnderlying24 Try.sizeOf5 rfl rfl (by decide) (by decide)) ?_
  refine H_take (i := 8) rfl (by kernel_rfl) (by kernel_rfl) (by kernel_rfl) rfl (pq_then (pq_block (pq_then (pq_then (pq_block (pq_then pq_body)))))) ⟨hE, hB1_0, trivial⟩ rfl (fun w hw => R_load Try.isAgg5 hw.2.1 rfl rfl) ?_
  refine H_take (i := 9) rfl (by kernel_rfl) (by kernel_rfl) (by kernel_rfl) rfl (pq_then (pq_block (pq_then (pq_then (pq_block (pq_then pq_body)))))) ⟨hE, hB1_0, trivial⟩ rfl (fun w hw => R_andB rfl rfl) ?_
  refine H_take (i := 10) rfl (by kernel_rfl) (by kernel_rfl) (by kernel_rfl) rfl (pq_then (pq_block (pq_then (pq_then (pq_block (pq_then pq_body)))))) ⟨hE, hB1_0, trivial⟩ rfl (fun w hw => R_convN (e := ((m).b4.toNat % 16)) Try.runUnderlying5 Try.runUnderlying3 rfl (by (try simp only [List.length_take, List.length_drop, List.length_append, List.length_cons, List.length_nil, List.length_replicate, List.length_set, Nm.b_len, be2_len]); omega)) ?_
  refine H_op (i := 11) (by kernel_rfl) rfl rfl (D_buildI2 (lo := w.heap.size) (a := ((m).b4.toNat / 16)) (b := ((m).b4.toNat % 16)) Try.underlying161 Try.sizeOf3 Try.zeroValue3 (mapp2 rfl rfl) (fun v22_11 w22_11 o22_11 e22_11 => ?_))
  have zv18_12_v22_11 := own_apart o18_12.1 o22_11.1
  have zv22_11_v18_12 := fun k hk hk2 => zv18_12_v22_11 k hk2 hk
  replace o22_11 := o22_11.low hE.size
  replace hE := hE.trans e22_11
  replace hB1_0 := hB1_0.ext e22_11
  replace o18_12 := o18_12.ext e22_11
  refine ⟨⟨hE, hB1_0, trivial⟩, ?_⟩
  refine H_op (i := 12) (by kernel_rfl) rfl rfl (D_appendL elt3 Try.underlying161 rfl rfl o18_12 (Nat.le_refl _) o22_11.ls (by (try simp only [List.length_take, List.length_drop, List.length_append, List.length_cons, List.length_nil, List.length_replicate, List.length_set, Nm.b_len, be2_len]); omega) (by (try simp only [List.length_take, List.length_drop, List.length_append, List.length_cons, List.length_nil, List.length_replicate, List.length_set, Nm.b_len, be2_len]); omega) hE.size (fun v22_12 w22_12 o22_12 g22_12 f22_12 sv22_12 => ?_))
  have zv22_11_v22_12 : ∀ k, Value.ownBlock v22_11 = some k → Value.ownBlock v22_12 ≠ some k := fun k hk2 hk => (sv22_12 _ hk).elim (fun h => zv22_11_v18_12 k hk2 h) (fun h => absurd h (Nat.not_le.2 (own_lt o22_11.1 hk2)))
  have zv22_12_v22_11 := fun k hk hk2 => zv22_11_v22_12 k hk2 hk
  replace hE := hE.grown g22_12 (fun k hk => own_ge o18_12.1 hk)
  replace hB1_0 := hB1_0.grown g22_12 (own_neB o18_12.1 hB1_0 rfl)
  replace o22_11 := o22_11.grown g22_12 (zv22_11_v18_12) f22_12
  refine ⟨⟨hE, hB1_0, trivial⟩, ?_⟩
  refine H_take (i := 13) rfl (by kernel_rfl) (by kernel_rfl) (by kernel_rfl) rfl (pq_then (pq_block (pq_then (pq_then (pq_block (pq_then pq_body)))))) ⟨hE, hB1_0, trivial⟩ rfl (fun w hw => R_assign rfl) ?_
  refine H_done (by kernel_rfl) ?_
  refine T_tn ?_
  refine W_draw mixed (by kernel_rfl) ?_
  refine Q_v (fun w hw => R_move rfl) ?_
  refine Q_v (fun w hw => R_move rfl) ?_
  refine Q_v (fun w hw => R_indexAddrA Try.runUnderlying24 Try.sizeOf5 rfl rfl (by decide) (by decide)) ?_
  refine Q_v (fun w hw => R_load Try.isAgg5 (hB1_0.ext hw) rfl rfl) ?_
  refine Q_v (fun w hw => R_shrB rfl rfl) ?_
  refine Q_v (fun w hw => R_convN (e := ((m).b4.toNat / 16)) Try.runUnderlying5 Try.runUnderlying3 rfl (by (try simp only [List.length_take, List.length_drop, List.length_append, List.length_cons, List.length_nil, List.length_replicate, List.length_set, Nm.b_len, be2_len]); omega)) ?_
  refine Q_v (fun w hw => R_subN (m := ((((((((240 - ((m).b0.toNat / 16)) - ((m).b0.toNat % 16)) - ((m).b1.toNat / 16)) - ((m).b1.toNat % 16)) - ((m).b2.toNat / 16)) - ((m).b2.toNat % 16)) - ((m).b3.toNat / 16)) - ((m).b3.toNat % 16))) (j := ((m).b4.toNat / 16)) rfl rfl (by (try simp only [List.length_take, List.length_drop, List.length_append, List.length_cons, List.length_nil, List.length_replicate, List.length_set, Nm.b_len, be2_len]); omega) (by (try simp only [List.length_take, List.length_drop, List.length_append, List.length_cons, List.length_nil, List.length_replicate, List.length_set, Nm.b_len, be2_len]); omega)) ?_
  refine Q_v (fun w hw => R_move rfl) ?_
  refine Q_v (fun w hw => R_indexAddrA Try.runUnderlying24 Try.sizeOf5 rfl rfl (by decide) (by decide)) ?_
  refine Q_v (fun w hw => R_load Try.isAgg5 (hB1_0.ext hw) rfl rfl) ?_
  refine Q_v (fun w hw => R_andB rfl rfl) ?_
  refine Q_v (fun w hw => R_convN (e := ((m).b4.toNat % 16)) Try.runUnderlying5 Try.runUnderlying3 rfl (by (try simp only [List.length_take, List.length_drop, List.length_append, List.length_cons, List.length_nil, List.length_replicate, List.length_set, Nm.b_len, be2_len]); omega)) ?_
  refine Q_v (fun w hw => R_subN (m := (((((((((240 - ((m).b0.toNat / 16)) - ((m).b0.toNat % 16)) - ((m).b1.toNat / 16)) - ((m).b1.toNat % 16)) - ((m).b2.toNat / 16)) - ((m).b2.toNat % 16)) - ((m).b3.toNat / 16)) - ((m).b3.toNat % 16)) - ((m).b4.toNat / 16))) (j := ((m).b4.toNat % 16)) rfl rfl (by (try simp only [List.length_take, List.length_drop, List.length_append, List.length_cons, List.length_nil, List.length_replicate, List.length_set, Nm.b_len, be2_len]); omega) (by (try simp only [List.length_take, List.length_drop, List.length_append, List.length_cons, List.length_nil, List.length_replicate, List.length_set, Nm.b_len, be2_len]); omega)) ?_
  refine Q_v (fun w hw => R_assign rfl) ?_
  refine Q_nil (fun w23_99 e23_99 => ?_)
  replace hE := hE.trans e23_99
  replace hB1_0 := hB1_0.ext e23_99
  replace o22_12 := o22_12.ext e23_99
  refine T_bn ?_
  refine T_tn ?_
  refine W_region ?_
  refine L (D_v (R_move rfl) ?_)
  refine L (D_v (R_cast (v' := .int .i64 (5)) (R_addI rfl rfl) rfl) ?_)
  refine L (D_v (R_assign rfl) ?_)
  refine S_nil ?_
  refine T_tn ?_
  refine W_round ?_
  refine wp_seq ?_
  refine wp_seq ?_
  refine W_region ?_
  refine L (D_v (R_move rfl) ?_)
  refine L (D_v (R_cast (v' := .bool true) (R_lssI rfl rfl) rfl) ?_)
  refine S_nil ?_
  refine T_tn ?_
  refine W_ift rfl ?_
  refine wp_skip ?_
  refine T_tn ?_
  refine wp_seq ?_
  refine wp_block ?_
  refine wp_seq ?_
  refine W_held (fun W => Ext w W ∧ Blk W aB1_0 (m).l 24 ∧ True) mixed (fun w26_99 e26_99 => ?_)
  replace hE := hE.trans e26_99
  replace hB1_0 := hB1_0.ext e26_99
  replace o22_12 := o22_12.ext e26_99
  refine H_take (i := 0) rfl (by kernel_rfl) (by kernel_rfl) (by kernel_rfl) rfl (pq_then (pq_block (pq_then (pq_then (pq_block (pq_then pq_body)))))) ⟨hE, hB1_0, trivial⟩ rfl (fun w hw => R_move rfl) ?_
  refine H_take (i := 1) rfl (by kernel_rfl) (by kernel_rfl) (by kernel_rfl) rfl (pq_then (pq_block (pq_then (pq_then (pq_block (pq_then pq_body)))))) ⟨hE, hB1_0, trivial⟩ rfl (fun w hw => R_move rfl) ?_
  refine H_take (i := 2) rfl (by kernel_rfl) (by kernel_rfl) (by kernel_rfl) rfl (pq_then (pq_block (pq_then (pq_then (pq_block (pq_then pq_body)))))) ⟨hE, hB1_0, trivial⟩ rfl (fun w hw => R_indexAddrA Try.runUnderlying24 Try.sizeOf5 rfl rfl (by decide) (by decide)) ?_
  refine H_take (i := 3) rfl (by kernel_rfl) (by kernel_rfl) (by kernel_rfl) rfl (pq_then (pq_block (pq_then (pq_then (pq_block (pq_then pq_body)))))) ⟨hE, hB1_0, trivial⟩ rfl (fun w hw => R_load Try.isAgg5 hw.2.1 rfl rfl) ?_
  refine H_take (i := 4) rfl (by kernel_rfl) (by kernel_rfl) (by kernel_rfl) rfl (pq_then (pq_block (pq_then (pq_then (pq_block (pq_then pq_body)))))) ⟨hE, hB1_0, trivial⟩ rfl (fun w hw => R_shrB rfl rfl) ?_
  refine H_take (i := 5) rfl (by kernel_rfl) (by kernel_rfl) (by kernel_rfl) rfl (pq_then (pq_block (pq_then (pq_then (pq_block (pq_then pq_body)))))) ⟨hE, hB1_0, trivial⟩ rfl (fun w hw => R_convN (e := ((m).b5.toNat / 16)) Try.runUnderlying5 Try.runUnderlying3 rfl (by (try simp only [List.length_take, List.length_drop, List.length_append, List.length_cons, List.length_nil, List.length_replicate, List.length_set, Nm.b_len, be2_len]); omega)) ?_
  refine H_take (i := 6) rfl (by kernel_rfl) (by kernel_rfl) (by kernel_rfl) rfl (pq_then (pq_block (pq_then (pq_then (pq_block (pq_then pq_body)))))) ⟨hE, hB1_0, trivial⟩ rfl (fun w hw => R_move rfl) ?_
  refine H_take (i := 7) rfl (by kernel_rfl) (by kernel_rfl) (by kernel_rfl) rfl (pq_then (pq_block (pq_then (pq_then (pq_block (pq_then pq_body)))))) ⟨hE, hB1_0, trivial⟩ rfl (fun w hw => R_indexAddrA Try.runUnderlying24 Try.sizeOf5 rfl rfl (by decide) (by decide)) ?_
  refine H_take (i := 8) rfl (by kernel_rfl) (by kernel_rfl) (by kernel_rfl) rfl (pq_then (pq_block (pq_then (pq_then (pq_block (pq_then pq_body)))))) ⟨hE, hB1_0, trivial⟩ rfl (fun w hw => R_load Try.isAgg5 hw.2.1 rfl rfl) ?_
  refine H_take (i := 9) rfl (by kernel_rfl) (by kernel_rfl) (by kernel_rfl) rfl (pq_then (pq_block (pq_then (pq_then (pq_block (pq_then pq_body)))))) ⟨hE, hB1_0, trivial⟩ rfl (fun w hw => R_andB rfl rfl) ?_
  refine H_take (i := 10) rfl (by kernel_rfl) (by kernel_rfl) (by kernel_rfl) rfl (pq_then (pq_block (pq_then (pq_then (pq_block (pq_then pq_body)))))) ⟨hE, hB1_0, trivial⟩ rfl (fun w hw => R_convN (e := ((m).b5.toNat % 16)) Try.runUnderlying5 Try.runUnderlying3 rfl (by (try simp only [List.length_take, List.length_drop, List.length_append, List.length_cons, List.length_nil, List.length_replicate, List.length_set, Nm.b_len, be2_len]); omega)) ?_
  refine H_op (i := 11) (by kernel_rfl) rfl rfl (D_buildI2 (lo := w.heap.size) (a := ((m).b5.toNat / 16)) (b := ((m).b5.toNat % 16)) Try.underlying161 Try.sizeOf3 Try.zeroValue3 (mapp2 rfl rfl) (fun v26_11 w26_11 o26_11 e26_11 => ?_))
  have zv22_12_v26_11 := own_apart o22_12.1 o26_11.1
  have zv26_11_v22_12 := fun k hk hk2 => zv22_12_v26_11 k hk2 hk
  replace o26_11 := o26_11.low hE.size
  replace hE := hE.trans e26_11
  replace hB1_0 := hB1_0.ext e26_11
  replace o22_12 := o22_12.ext e26_11
  refine ⟨⟨hE, hB1_0, trivial⟩, ?_⟩
  refine H_op (i := 12) (by kernel_rfl) rfl rfl (D_appendL elt3 Try.underlying161 rfl rfl o22_12 (Nat.le_refl _) o26_11.ls (by (try simp only [List.length_take, List.length_drop, List.length_append, List.length_cons, List.length_nil, List.length_replicate, List.length_set, Nm.b_len, be2_len]); omega) (by (try simp only [List.length_take, List.length_drop, List.length_append, List.length_cons, List.length_nil, List.length_replicate, List.length_set, Nm.b_len, be2_len]); omega) hE.size (fun v26_12 w26_12 o26_12 g26_12 f26_12 sv26_12 => ?_))
  have zv26_11_v26_12 : ∀ k, Value.ownBlock v26_11 = some k → Value.ownBlock v26_12 ≠ some k := fun k hk2 hk => (sv26_12 _ hk).elim (fun h => zv26_11_v22_12 k hk2 h) (fun h => absurd h (Nat.not_le.2 (own_lt o26_11.1 hk2)))
  have zv26_12_v26_11 := fun k hk hk2 => zv26_11_v26_12 k hk2 hk
  replace hE := hE.grown g26_12 (fun k hk => own_ge o22_12.1 hk)
  replace hB1_0 := hB1_0.grown g26_12 (own_neB o22_12.1 hB1_0 rfl)
  replace o26_11 := o26_11.grown g26_12 (zv26_11_v22_12) f26_12
  refine ⟨⟨hE, hB1_0, trivial⟩, ?_⟩
  refine H_take (i := 13) rfl (by kernel_rfl) (by kernel_rfl) (by kernel_rfl) rfl (pq_then (pq_block (pq_then (pq_then (pq_block (pq_then pq_body)))))) ⟨hE, hB1_0, trivial⟩ rfl (fun w hw => R_assign rfl) ?_
  refine H_done (by kernel_rfl) ?_
  refine T_tn ?_
  refine W_draw mixed (by kernel_rfl) ?_
  refine Q_v (fun w hw => R_move rfl) ?_
  refine Q_v (fun w hw => R_move rfl) ?_
  refine Q_v (fun w hw => R_indexAddrA Try.runUnderlying24 Try.sizeOf5 rfl rfl (by decide) (by decide)) ?_
  refine Q_v (fun w hw => R_load Try.isAgg5 (hB1_0.ext hw) rfl rfl) ?_
  refine Q_v (fun w hw => R_shrB rfl rfl) ?_
  refine Q_v (fun w hw => R_convN (e := ((m).b5.toNat / 16)) Try.runUnderlying5 Try.runUnderlying3 rfl (by (try simp only [List.length_take, List.length_drop, List.length_append, List.length_cons, List.length_nil, List.length_replicate, List.length_set, Nm.b_len, be2_len]); omega)) ?_
  refine Q_v (fun w hw => R_subN (m := ((((((((((240 - ((m).b0.toNat / 16)) - ((m).b0.toNat % 16)) - ((m).b1.toNat / 16)) - ((m).b1.toNat % 16)) - ((m).b2.toNat / 16)) - ((m).b2.toNat % 16)) - ((m).b3.toNat / 16)) - ((m).b3.toNat % 16)) - ((m).b4.toNat / 16)) - ((m).b4.toNat % 16))) (j := ((m).b5.toNat / 16)) rfl rfl (by (try simp only [List.length_take, List.length_drop, List.length_append, List.length_cons, List.length_nil, List.length_replicate, List.length_set, Nm.b_len, be2_len]); omega) (by (try simp only [List.length_take, List.length_drop, List.length_append, List.length_cons, List.length_nil, List.length_replicate, List.length_set, Nm.b_len, be2_len]); omega)) ?_
  refine Q_v (fun w hw => R_move rfl) ?_
  refine Q_v (fun w hw => R_indexAddrA Try.runUnderlying24 Try.sizeOf5 rfl rfl (by decide) (by decide)) ?_
  refine Q_v (fun w hw => R_load Try.isAgg5 (hB1_0.ext hw) rfl rfl) ?_
  refine Q_v (fun w hw => R_andB rfl rfl) ?_
  refine Q_v (fun w hw => R_convN (e := ((m).b5.toNat % 16)) Try.runUnderlying5 Try.runUnderlying3 rfl (by (try simp only [List.length_take, List.length_drop, List.length_append, List.length_cons, List.length_nil, List.length_replicate, List.length_set, Nm.b_len, be2_len]); omega)) ?_
  refine Q_v (fun w hw => R_subN (m := (((((((((((240 - ((m).b0.toNat / 16)) - ((m).b0.toNat % 16)) - ((m).b1.toNat / 16)) - ((m).b1.toNat % 16)) - ((m).b2.toNat / 16)) - ((m).b2.toNat % 16)) - ((m).b3.toNat / 16)) - ((m).b3.toNat % 16)) - ((m).b4.toNat / 16)) - ((m).b4.toNat % 16)) - ((m).b5.toNat / 16))) (j := ((m).b5.toNat % 16)) rfl rfl (by (try simp only [List.length_take, List.length_drop, List.length_append, List.length_cons, List.length_nil, List.length_replicate, List.length_set, Nm.b_len, be2_len]); omega) (by (try simp only [List.length_take, List.length_drop, List.length_append, List.length_cons, List.length_nil, List.length_replicate, List.length_set, Nm.b_len, be2_len]); omega)) ?_
  refine Q_v (fun w hw => R_assign rfl) ?_
  refine Q_nil (fun w27_99 e27_99 => ?_)
  replace hE := hE.trans e27_99
  replace hB1_0 := hB1_0.ext e27_99
  replace o26_12 := o26_12.ext e27_99
  refine T_bn ?_
  refine T_tn ?_
  refine W_region ?_
  refine L (D_v (R_move rfl) ?_)
  refine L (D_v (R_cast (v' := .int .i64 (6)) (R_addI rfl rfl) rfl) ?_)
  refine L (D_v (R_assign rfl) ?_)
  refine S_nil ?_
  refine T_tn ?_
  refine W_round ?_
  refine wp_seq ?_
  refine wp_seq ?_
  refine W_region ?_
  refine L (D_v (R_move rfl) ?_)
  refine L (D_v (R_cast (v' := .bool true) (R_lssI rfl rfl) rfl) ?_)
  refine S_nil ?_
  refine T_tn ?_
  refine W_ift rfl ?_
  refine wp_skip ?_
  refine T_tn ?_
  refine wp_seq ?_
  refine wp_block ?_
  refine wp_seq ?_
  refine W_held (fun W => Ext w W ∧ Blk W aB1_0 (m).l 24 ∧ True) mixed (fun w30_99 e30_99 => ?_)
  replace hE := hE.trans e30_99
  replace hB1_0 := hB1_0.ext e30_99
  replace o26_12 := o26_12.ext e30_99
  refine H_take (i := 0) rfl (by kernel_rfl) (by kernel_rfl) (by kernel_rfl) rfl (pq_then (pq_block (pq_then (pq_then (pq_block (pq_then pq_body)))))) ⟨hE, hB1_0, trivial⟩ rfl (fun w hw => R_move rfl) ?_
  refine H_take (i := 1) rfl (by kernel_rfl) (by kernel_rfl) (by kernel_rfl) rfl (pq_then (pq_block (pq_then (pq_then (pq_block (pq_then pq_body)))))) ⟨hE, hB1_0, trivial⟩ rfl (fun w hw => R_move rfl) ?_
  refine H_take (i := 2) rfl (by kernel_rfl) (by kernel_rfl) (by kernel_rfl) rfl (pq_then (pq_block (pq_then (pq_then (pq_block (pq_then pq_body)))))) ⟨hE, hB1_0, trivial⟩ rfl (fun w hw => R_indexAddrA Try.runUnderlying24 Try.sizeOf5 rfl rfl (by decide) (by decide)) ?_
  refine H_take (i := 3) rfl (by kernel_rfl) (by kernel_rfl) (by kernel_rfl) rfl (pq_then (pq_block (pq_then (pq_then (pq_block (pq_then pq_body)))))) ⟨hE, hB1_0, trivial⟩ rfl (fun w hw => R_load Try.isAgg5 hw.2.1 rfl rfl) ?_
  refine H_take (i := 4) rfl (by kernel_rfl) (by kernel_rfl) (by kernel_rfl) rfl (pq_then (pq_block (pq_then (pq_then (pq_block (pq_then pq_body)))))) ⟨hE, hB1_0, trivial⟩ rfl (fun w hw => R_shrB rfl rfl) ?_
  refine H_take (i := 5) rfl (by kernel_rfl) (by kernel_rfl) (by kernel_rfl) rfl (pq_then (pq_block (pq_then (pq_then (pq_block (pq_then pq_body)))))) ⟨hE, hB1_0, trivial⟩ rfl (fun w hw => R_convN (e := ((m).b6.toNat / 16)) Try.runUnderlying5 Try.runUnderlying3 rfl (by (try simp only [List.length_take, List.length_drop, List.length_append, List.length_cons, List.length_nil, List.length_replicate, List.length_set, Nm.b_len, be2_len]); omega)) ?_
  refine H_take (i := 6) rfl (by kernel_rfl) (by kernel_rfl) (by kernel_rfl) rfl (pq_then (pq_block (pq_then (pq_then (pq_block (pq_then pq_body)))))) ⟨hE, hB1_0, trivial⟩ rfl (fun w hw => R_move rfl) ?_
  refine H_take (i := 7) rfl (by kernel_rfl) (by kernel_rfl) (by kernel_rfl) rfl (pq_then (pq_block (pq_then (pq_then (pq_block (pq_then pq_body)))))) ⟨hE, hB1_0, trivial⟩ rfl (fun w hw => R_indexAddrA Try.runUnderlying24 Try.sizeOf5 rfl rfl (by decide) (by decide)) ?_
  refine H_take (i := 8) rfl (by kernel_rfl) (by kernel_rfl) (by kernel_rfl) rfl (pq_then (pq_block (pq_then (pq_then (pq_block (pq_then pq_body)))))) ⟨hE, hB1_0, trivial⟩ rfl (fun w hw => R_load Try.isAgg5 hw.2.1 rfl rfl) ?_
  refine H_take (i := 9) rfl (by kernel_rfl) (by kernel_rfl) (by kernel_rfl) rfl (pq_then (pq_block (pq_then (pq_then (pq_block (pq_then pq_body)))))) ⟨hE, hB1_0, trivial⟩ rfl (fun w hw => R_andB rfl rfl) ?_
  refine H_take (i := 10) rfl (by kernel_rfl) (by kernel_rfl) (by kernel_rfl) rfl (pq_then (pq_block (pq_then (pq_then (pq_block (pq_then pq_body)))))) ⟨hE, hB1_0, trivial⟩ rfl (fun w hw => R_convN (e := ((m).b6.toNat % 16)) Try.runUnderlying5 Try.runUnderlying3 rfl (by (try simp only [List.length_take, List.length_drop, List.length_append, List.length_cons, List.length_nil, List.length_replicate, List.length_set, Nm.b_len, be2_len]); omega)) ?_
  refine H_op (i := 11) (by kernel_rfl) rfl rfl (D_buildI2 (lo := w.heap.size) (a := ((m).b6.toNat / 16)) (b := ((m).b6.toNat % 16)) Try.underlying161 Try.sizeOf3 Try.zeroValue3 (mapp2 rfl rfl) (fun v30_11 w30_11 o30_11 e30_11 => ?_))
  have zv26_12_v30_11 := own_apart o26_12.1 o30_11.1
  have zv30_11_v26_12 := fun k hk hk2 => zv26_12_v30_11 k hk2 hk
  replace o30_11 := o30_11.low hE.size
  replace hE := hE.trans e30_11
  replace hB1_0 := hB1_0.ext e30_11
  replace o26_12 := o26_12.ext e30_11
  refine ⟨⟨hE, hB1_0, trivial⟩, ?_⟩
  refine H_op (i := 12) (by kernel_rfl) rfl rfl (D_appendL elt3 Try.underlying161 rfl rfl o26_12 (Nat.le_refl _) o30_11.ls (by (try simp only [List.length_take, List.length_drop, List.length_append, List.length_cons, List.length_nil, List.length_replicate, List.length_set, Nm.b_len, be2_len]); omega) (by (try simp only [List.length_take, List.length_drop, List.length_append, List.length_cons, List.length_nil, List.length_replicate, List.length_set, Nm.b_len, be2_len]); omega) hE.size (fun v30_12 w30_12 o30_12 g30_12 f30_12 sv30_12 => ?_))
  have zv30_11_v30_12 : ∀ k, Value.ownBlock v30_11 = some k → Value.ownBlock v30_12 ≠ some k := fun k hk2 hk => (sv30_12 _ hk).elim (fun h => zv30_11_v26_12 k hk2 h) (fun h => absurd h (Nat.not_le.2 (own_lt o30_11.1 hk2)))
  have zv30_12_v30_11 := fun k hk hk2 => zv30_11_v30_12 k hk2 hk
  replace hE := hE.grown g30_12 (fun k hk => own_ge o26_12.1 hk)
  replace hB1_0 := hB1_0.grown g30_12 (own_neB o26_12.1 hB1_0 rfl)
  replace o30_11 := o30_11.grown g30_12 (zv30_11_v26_12) f30_12
  refine ⟨⟨hE, hB1_0, trivial⟩, ?_⟩
  refine H_take (i := 13) rfl (by kernel_rfl) (by kernel_rfl) (by kernel_rfl) rfl (pq_then (pq_block (pq_then (pq_then (pq_block (pq_then pq_body)))))) ⟨hE, hB1_0, trivial⟩ rfl (fun w hw => R_assign rfl) ?_
  refine H_done (by kernel_rfl) ?_
  refine T_tn ?_
  refine W_draw mixed (by kernel_rfl) ?_
  refine Q_v (fun w hw => R_move rfl) ?_
  refine Q_v (fun w hw => R_move rfl) ?_
  refine Q_v (fun w hw => R_indexAddrA Try.runUnderlying24 Try.sizeOf5 rfl rfl (by decide) (by decide)) ?_
  refine Q_v (fun w hw => R_load Try.isAgg5 (hB1_0.ext hw) rfl rfl) ?_
  refine Q_v (fun w hw => R_shrB rfl rfl) ?_
  refine Q_v (fun w hw => R_convN (e := ((m).b6.toNat / 16)) Try.runUnderlying5 Try.runUnderlying3 rfl (by (try simp only [List.length_take, List.length_drop, List.length_append, List.length_cons, List.length_nil, List.length_replicate, List.length_set, Nm.b_len, be2_len]); omega)) ?_
  refine Q_v (fun w hw => R_subN (m := ((((((((((((240 - ((m).b0.toNat / 16)) - ((m).b0.toNat % 16)) - ((m).b1.toNat / 16)) - ((m).b1.toNat % 16)) - ((m).b2.toNat / 16)) - ((m).b2.toNat % 16)) - ((m).b3.toNat / 16)) - ((m).b3.toNat % 16)) - ((m).b4.toNat / 16)) - ((m).b4.toNat % 16)) - ((m).b5.toNat / 16)) - ((m).b5.toNat % 16))) (j := ((m).b6.toNat / 16)) rfl rfl (by (try simp only [List.length_take, List.length_drop, List.length_append, List.length_cons, List.length_nil, List.length_replicate, List.length_set, Nm.b_len, be2_len]); omega) (by (try simp only [List.length_take, List.length_drop, List.length_append, List.length_cons, List.length_nil, List.length_replicate, List.length_set, Nm.b_len, be2_len]); omega)) ?_
  refine Q_v (fun w hw => R_move rfl) ?_
  refine Q_v (fun w hw => R_indexAddrA Try.runUnderlying24 Try.sizeOf5 rfl rfl (by decide) (by decide)) ?_
  refine Q_v (fun w hw => R_load Try.isAgg5 (hB1_0.ext hw) rfl rfl) ?_
  refine Q_v (fun w hw => R_andB rfl rfl) ?_
  refine Q_v (fun w hw => R_convN (e := ((m).b6.toNat % 16)) Try.runUnderlying5 Try.runUnderlying3 rfl (by (try simp only [List.length_take, List.length_drop, List.length_append, List.length_cons, List.length_nil, List.length_replicate, List.length_set, Nm.b_len, be2_len]); omega)) ?_
  refine Q_v (fun w hw => R_subN (m := (((((((((((((240 - ((m).b0.toNat / 16)) - ((m).b0.toNat % 16)) - ((m).b1.toNat / 16)) - ((m).b1.toNat % 16)) - ((m).b2.toNat / 16)) - ((m).b2.toNat % 16)) - ((m).b3.toNat / 16)) - ((m).b3.toNat % 16)) - ((m).b4.toNat / 16)) - ((m).b4.toNat % 16)) - ((m).b5.toNat / 16)) - ((m).b5.toNat % 16)) - ((m).b6.toNat / 16))) (j := ((m).b6.toNat % 16)) rfl rfl (by (try simp only [List.length_take, List.length_drop, List.length_append, List.length_cons, List.length_nil, List.length_replicate, List.length_set, Nm.b_len, be2_len]); omega) (by (try simp only [List.length_take, List.length_drop, List.length_append, List.length_cons, List.length_nil, List.length_replicate, List.length_set, Nm.b_len, be2_len]); omega)) ?_
  refine Q_v (fun w hw => R_assign rfl) ?_
  refine Q_nil (fun w31_99 e31_99 => ?_)
  replace hE := hE.trans e31_99
  replace hB1_0 := hB1_0.ext e31_99
  replace o30_12 := o30_12.ext e31_99
  refine T_bn ?_
  refine T_tn ?_
  refine W_region ?_
  refine L (D_v (R_move rfl) ?_)
  refine L (D_v (R_cast (v' := .int .i64 (7)) (R_addI rfl rfl) rfl) ?_)
  refine L (D_v (R_assign rfl) ?_)
  refine S_nil ?_
  refine T_tn ?_
  refine W_round ?_
  refine wp_seq ?_
  refine wp_seq ?_
  refine W_region ?_
  refine L (D_v (R_move rfl) ?_)
  refine L (D_v (R_cast (v' := .bool true) (R_lssI rfl rfl) rfl) ?_)
  refine S_nil ?_
  refine T_tn ?_
  refine W_ift rfl ?_
  refine wp_skip ?_
  refine T_tn ?_
  refine wp_seq ?_
  refine wp_block ?_
  refine wp_seq ?_
  refine W_held (fun W => Ext w W ∧ Blk W aB1_0 (m).l 24 ∧ True) mixed (fun w34_99 e34_99 => ?_)
  replace hE := hE.trans e34_99
  replace hB1_0 := hB1_0.ext e34_99
  replace o30_12 := o30_12.ext e34_99
  refine H_take (i := 0) rfl (by kernel_rfl) (by kernel_rfl) (by kernel_rfl) rfl (pq_then (pq_block (pq_then (pq_then (pq_block (pq_then pq_body)))))) ⟨hE, hB1_0, trivial⟩ rfl (fun w hw => R_move rfl) ?_
  refine H_take (i := 1) rfl (by kernel_rfl) (by kernel_rfl) (by kernel_rfl) rfl (pq_then (pq_block (pq_then (pq_then (pq_block (pq_then pq_body)))))) ⟨hE, hB1_0, trivial⟩ rfl (fun w hw => R_move rfl) ?_
  refine H_take (i := 2) rfl (by kernel_rfl) (by kernel_rfl) (by kernel_rfl) rfl (pq_then (pq_block (pq_then (pq_then (pq_block (pq_then pq_body)))))) ⟨hE, hB1_0, trivial⟩ rfl (fun w hw => R_indexAddrA Try.runUnderlying24 Try.sizeOf5 rfl rfl (by decide) (by decide)) ?_
  refine H_take (i := 3) rfl (by kernel_rfl) (by kernel_rfl) (by kernel_rfl) rfl (pq_then (pq_block (pq_then (pq_then (pq_block (pq_then pq_body)))))) ⟨hE, hB1_0, trivial⟩ rfl (fun w hw => R_load Try.isAgg5 hw.2.1 rfl rfl) ?_
  refine H_take (i := 4) rfl (by kernel_rfl) (by kernel_rfl) (by kernel_rfl) rfl (pq_then (pq_block (pq_then (pq_then (pq_block (pq_then pq_body)))))) ⟨hE, hB1_0, trivial⟩ rfl (fun w hw => R_shrB rfl rfl) ?_
  refine H_take (i := 5) rfl (by kernel_rfl) (by kernel_rfl) (by kernel_rfl) rfl (pq_then (pq_block (pq_then (pq_then (pq_block (pq_then pq_body)))))) ⟨hE, hB1_0, trivial⟩ rfl (fun w hw => R_convN (e := ((m).b7.toNat / 16)) Try.runUnderlying5 Try.runUnderlying3 rfl (by (try simp only [List.length_take, List.length_drop, List.length_append, List.length_cons, List.length_nil, List.length_replicate, List.length_set, Nm.b_len, be2_len]); omega)) ?_
  refine H_take (i := 6) rfl (by kernel_rfl) (by kernel_rfl) (by kernel_rfl) rfl (pq_then (pq_block (pq_then (pq_then (pq_block (pq_then pq_body)))))) ⟨hE, hB1_0, trivial⟩ rfl (fun w hw => R_move rfl) ?_
  refine H_take (i := 7) rfl (by kernel_rfl) (by kernel_rfl) (by kernel_rfl) rfl (pq_then (pq_block (pq_then (pq_then (pq_block (pq_then pq_body)))))) ⟨hE, hB1_0, trivial⟩ rfl (fun w hw => R_indexAddrA Try.runUnderlying24 Try.sizeOf5 rfl rfl (by decide) (by decide)) ?_
  refine H_take (i := 8) rfl (by kernel_rfl) (by kernel_rfl) (by kernel_rfl) rfl (pq_then (pq_block (pq_then (pq_then (pq_block (pq_then pq_body)))))) ⟨hE, hB1_0, trivial⟩ rfl (fun w hw => R_load Try.isAgg5 hw.2.1 rfl rfl) ?_
  refine H_take (i := 9) rfl (by kernel_rfl) (by kernel_rfl) (by kernel_rfl) rfl (pq_then (pq_block (pq_then (pq_then (pq_block (pq_then pq_body)))))) ⟨hE, hB1_0, trivial⟩ rfl (fun w hw => R_andB rfl rfl) ?_
  refine H_take (i := 10) rfl (by kernel_rfl) (by kernel_rfl) (by kernel_rfl) rfl (pq_then (pq_block (pq_then (pq_then (pq_block (pq_then pq_body)))))) ⟨hE, hB1_0, trivial⟩ rfl (fun w hw => R_convN (e := ((m).b7.toNat % 16)) Try.runUnderlying5 Try.runUnderlying3 rfl (by (try simp only [List.length_take, List.length_drop, List.length_append, List.length_cons, List.length_nil, List.length_replicate, List.length_set, Nm.b_len, be2_len]); omega)) ?_
  refine H_op (i := 11) (by kernel_rfl) rfl rfl (D_buildI2 (lo := w.heap.size) (a := ((m).b7.toNat / 16)) (b := ((m).b7.toNat % 16)) Try.underlying161 Try.sizeOf3 Try.zeroValue3 (mapp2 rfl rfl) (fun v34_11 w34_11 o34_11 e34_11 => ?_))
  have zv30_12_v34_11 := own_apart o30_12.1 o34_11.1
  have zv34_11_v30_12 := fun k hk hk2 => zv30_12_v34_11 k hk2 hk
  replace o34_11 := o34_11.low hE.size
  replace hE := hE.trans e34_11
  replace hB1_0 := hB1_0.ext e34_11
  replace o30_12 := o30_12.ext e34_11
  refine ⟨⟨hE, hB1_0, trivial⟩, ?_⟩
  refine H_op (i := 12) (by kernel_rfl) rfl rfl (D_appendL elt3 Try.underlying161 rfl rfl o30_12 (Nat.le_refl _) o34_11.ls (by (try simp only [List.length_take, List.length_drop, List.length_append, List.length_cons, List.length_nil, List.length_replicate, List.length_set, Nm.b_len, be2_len]); omega) (by (try simp only [List.length_take, List.length_drop, List.length_append, List.length_cons, List.length_nil, List.length_replicate, List.length_set, Nm.b_len, be2_len]); omega) hE.size (fun v34_12 w34_12 o34_12 g34_12 f34_12 sv34_12 => ?_))
  have zv34_11_v34_12 : ∀ k, Value.ownBlock v34_11 = some k → Value.ownBlock v34_12 ≠ some k := fun k hk2 hk => (sv34_12 _ hk).elim (fun h => zv34_11_v30_12 k hk2 h) (fun h => absurd h (Nat.not_le.2 (own_lt o34_11.1 hk2)))
  have zv34_12_v34_11 := fun k hk hk2 => zv34_11_v34_12 k hk2 hk
  replace hE := hE.grown g34_12 (fun k hk => own_ge o30_12.1 hk)
  replace hB1_0 := hB1_0.grown g34_12 (own_neB o30_12.1 hB1_0 rfl)
  replace o34_11 := o34_11.grown g34_12 (zv34_11_v30_12) f34_12
  refine ⟨⟨hE, hB1_0, trivial⟩, ?_⟩
  refine H_take (i := 13) rfl (by kernel_rfl) (by kernel_rfl) (by kernel_rfl) rfl (pq_then (pq_block (pq_then (pq_then (pq_block (pq_then pq_body)))))) ⟨hE, hB1_0, trivial⟩ rfl (fun w hw => R_assign rfl) ?_
  refine H_done (by kernel_rfl) ?_
  refine T_tn ?_
  refine W_draw mixed (by kernel_rfl) ?_
  refine Q_v (fun w hw => R_move rfl) ?_
  refine Q_v (fun w hw => R_move rfl) ?_
  refine Q_v (fun w hw => R_indexAddrA Try.runUnderlying24 Try.sizeOf5 rfl rfl (by decide) (by decide)) ?_
  refine Q_v (fun w hw => R_load Try.isAgg5 (hB1_0.ext hw) rfl rfl) ?_
  refine Q_v (fun w hw => R_shrB rfl rfl) ?_
  refine Q_v (fun w hw => R_convN (e := ((m).b7.toNat / 16)) Try.runUnderlying5 Try.runUnderlying3 rfl (by (try simp only [List.length_take, List.length_drop, List.length_append, List.length_cons, List.length_nil, List.length_replicate, List.length_set, Nm.b_len, be2_len]); omega)) ?_
  refine Q_v (fun w hw => R_subN (m := ((((((((((((((240 - ((m).b0.toNat / 16)) - ((m).b0.toNat % 16)) - ((m).b1.toNat / 16)) - ((m).b1.toNat % 16)) - ((m).b2.toNat / 16)) - ((m).b2.toNat % 16)) - ((m).b3.toNat / 16)) - ((m).b3.toNat % 16)) - ((m).b4.toNat / 16)) - ((m).b4.toNat % 16)) - ((m).b5.toNat / 16)) - ((m).b5.toNat % 16)) - ((m).b6.toNat / 16)) - ((m).b6.toNat % 16))) (j := ((m).b7.toNat / 16)) rfl rfl (by (try simp only [List.length_take, List.length_drop, List.length_append, List.length_cons, List.length_nil, List.length_replicate, List.length_set, Nm.b_len, be2_len]); omega) (by (try simp only [List.length_take, List.length_drop, List.length_append, List.length_cons, List.length_nil, List.length_replicate, List.length_set, Nm.b_len, be2_len]); omega)) ?_
  refine Q_v (fun w hw => R_move rfl) ?_
  refine Q_v (fun w hw => R_indexAddrA Try.runUnderlying24 Try.sizeOf5 rfl rfl (by decide) (by decide)) ?_
  refine Q_v (fun w hw => R_load Try.isAgg5 (hB1_0.ext hw) rfl rfl) ?_
  refine Q_v (fun w hw => R_andB rfl rfl) ?_
  refine Q_v (fun w hw => R_convN (e := ((m).b7.toNat % 16)) Try.runUnderlying5 Try.runUnderlying3 rfl (by (try simp only [List.length_take, List.length_drop, List.length_append, List.length_cons, List.length_nil, List.length_replicate, List.length_set, Nm.b_len, be2_len]); omega)) ?_
  refine Q_v (fun w hw => R_subN (m := (((((((((((((((240 - ((m).b0.toNat / 16)) - ((m).b0.toNat % 16)) - ((m).b1.toNat / 16)) - ((m).b1.toNat % 16)) - ((m).b2.toNat / 16)) - ((m).b2.toNat % 16)) - ((m).b3.toNat / 16)) - ((m).b3.toNat % 16)) - ((m).b4.toNat / 16)) - ((m).b4.toNat % 16)) - ((m).b5.toNat / 16)) - ((m).b5.toNat % 16)) - ((m).b6.toNat / 16)) - ((m).b6.toNat % 16)) - ((m).b7.toNat / 16))) (j := ((m).b7.toNat % 16)) rfl rfl (by (try simp only [List.length_take, List.length_drop, List.length_append, List.length_cons, List.length_nil, List.length_replicate, List.length_set, Nm.b_len, be2_len]); omega) (by (try simp only [List.length_take, List.length_drop, List.length_append, List.length_cons, List.length_nil, List.length_replicate, List.length_set, Nm.b_len, be2_len]); omega)) ?_
  refine Q_v (fun w hw => R_assign rfl) ?_
  refine Q_nil (fun w35_99 e35_99 => ?_)
  replace hE := hE.trans e35_99
  replace hB1_0 := hB1_0.ext e35_99
  replace o34_12 := o34_12.ext e35_99
  refine T_bn ?_
  refine T_tn ?_
  refine W_region ?_
  refine L (D_v (R_move rfl) ?_)
  refine L (D_v (R_cast (v' := .int .i64 (8)) (R_addI rfl rfl) rfl) ?_)
  refine L (D_v (R_assign rfl) ?_)
  refine S_nil ?_
  refine T_tn ?_
  refine W_round ?_
  refine wp_seq ?_
  refine wp_seq ?_
  refine W_region ?_
  refine L (D_v (R_move rfl) ?_)
  refine L (D_v (R_cast (v' := .bool false) (R_lssI rfl rfl) rfl) ?_)
  refine S_nil ?_
  refine T_tn ?_
  refine W_iff rfl ?_
  refine wp_exit ?_
  refine T_te ?_
  refine T_te ?_
  refine T_be ?_
  refine T_tn ?_
  refine wp_seq ?_
  refine W_region ?_
  refine L (D_v (R_move rfl) ?_)
  refine L (D_v (R_move rfl) ?_)
  refine L (D_v (R_quoN (m := ((((((((((((((((240 - ((m).b0.toNat / 16)) - ((m).b0.toNat % 16)) - ((m).b1.toNat / 16)) - ((m).b1.toNat % 16)) - ((m).b2.toNat / 16)) - ((m).b2.toNat % 16)) - ((m).b3.toNat / 16)) - ((m).b3.toNat % 16)) - ((m).b4.toNat / 16)) - ((m).b4.toNat % 16)) - ((m).b5.toNat / 16)) - ((m).b5.toNat % 16)) - ((m).b6.toNat / 16)) - ((m).b6.toNat % 16)) - ((m).b7.toNat / 16)) - ((m).b7.toNat % 16))) (j := 16) rfl rfl (by decide) (by (try simp only [List.length_take, List.length_drop, List.length_append, List.length_cons, List.length_nil, List.length_replicate, List.length_set, Nm.b_len, be2_len]); omega)) ?_)
  refine L (D_v (R_move rfl) ?_)
  refine L (D_v (R_remN (m := ((((((((((((((((240 - ((m).b0.toNat / 16)) - ((m).b0.toNat % 16)) - ((m).b1.toNat / 16)) - ((m).b1.toNat % 16)) - ((m).b2.toNat / 16)) - ((m).b2.toNat % 16)) - ((m).b3.toNat / 16)) - ((m).b3.toNat % 16)) - ((m).b4.toNat / 16)) - ((m).b4.toNat % 16)) - ((m).b5.toNat / 16)) - ((m).b5.toNat % 16)) - ((m).b6.toNat / 16)) - ((m).b6.toNat % 16)) - ((m).b7.toNat / 16)) - ((m).b7.toNat % 16))) (j := 16) rfl rfl (by decide) (by (try simp only [List.length_take, List.length_drop, List.length_append, List.length_cons, List.length_nil, List.length_replicate, List.length_set, Nm.b_len, be2_len]); omega)) ?_)
  refine L (D_buildI2 (lo := w.heap.size) (a := (((((((((((((((((240 - ((m).b0.toNat / 16)) - ((m).b0.toNat % 16)) - ((m).b1.toNat / 16)) - ((m).b1.toNat % 16)) - ((m).b2.toNat / 16)) - ((m).b2.toNat % 16)) - ((m).b3.toNat / 16)) - ((m).b3.toNat % 16)) - ((m).b4.toNat / 16)) - ((m).b4.toNat % 16)) - ((m).b5.toNat / 16)) - ((m).b5.toNat % 16)) - ((m).b6.toNat / 16)) - ((m).b6.toNat % 16)) - ((m).b7.toNat / 16)) - ((m).b7.toNat % 16)) / 16)) (b := (((((((((((((((((240 - ((m).b0.toNat / 16)) - ((m).b0.toNat % 16)) - ((m).b1.toNat / 16)) - ((m).b1.toNat % 16)) - ((m).b2.toNat / 16)) - ((m).b2.toNat % 16)) - ((m).b3.toNat / 16)) - ((m).b3.toNat % 16)) - ((m).b4.toNat / 16)) - ((m).b4.toNat % 16)) - ((m).b5.toNat / 16)) - ((m).b5.toNat % 16)) - ((m).b6.toNat / 16)) - ((m).b6.toNat % 16)) - ((m).b7.toNat / 16)) - ((m).b7.toNat % 16)) % 16)) Try.underlying161 Try.sizeOf3 Try.zeroValue3 (mapp2 rfl rfl) (fun v38_5 w38_5 o38_5 e38_5 => ?_))
  have zv34_12_v38_5 := own_apart o34_12.1 o38_5.1
  have zv38_5_v34_12 := fun k hk hk2 => zv34_12_v38_5 k hk2 hk
  replace o38_5 := o38_5.low hE.size
  replace hE := hE.trans e38_5
  replace o34_12 := o34_12.ext e38_5
  refine L (D_appendL elt3 Try.underlying161 rfl rfl o34_12 (Nat.le_refl _) o38_5.ls (by (try simp only [List.length_take, List.length_drop, List.length_append, List.length_cons, List.length_nil, List.length_replicate, List.length_set, Nm.b_len, be2_len]); omega) (by (try simp only [List.length_take, List.length_drop, List.length_append, List.length_cons, List.length_nil, List.length_replicate, List.length_set, Nm.b_len, be2_len]); omega) hE.size (fun v38_6 w38_6 o38_6 g38_6 f38_6 sv38_6 => ?_))
  have zv38_5_v38_6 : ∀ k, Value.ownBlock v38_5 = some k → Value.ownBlock v38_6 ≠ some k := fun k hk2 hk => (sv38_6 _ hk).elim (fun h => zv38_5_v34_12 k hk2 h) (fun h => absurd h (Nat.not_le.2 (own_lt o38_5.1 hk2)))
  have zv38_6_v38_5 := fun k hk hk2 => zv38_5_v38_6 k hk2 hk
  replace hE := hE.grown g38_6 (fun k hk => own_ge o34_12.1 hk)
  replace o38_5 := o38_5.grown g38_6 (zv38_5_v34_12) f38_6
  refine L (D_v (R_assign rfl) ?_)
  refine S_nil ?_
  refine T_tn ?_
  refine wp_ret ?_
  refine ret1 (v := v38_6) rfl rfl ⟨_, rfl, hE, ?_⟩
  unfold digits drest; simp only [Nat.sub_add_eq]; first | exact o38_6 | (simp only [Nat.sub_add_eq] at o38_6; exact o38_6)
end Go.Proofs.Yteeopgpgbdhmhaa
