/- Walks of the functions on votes: validity, keys, conflicts, order. No condition. Printed by wip/mkA.py. -/
import Derived.Test.YteeopgpgbdhmhaaSp
namespace Go.Proofs.Yteeopgpgbdhmhaa
open Go.RowKit
set_option linter.unusedVariables false
set_option linter.unusedSimpArgs false
attribute [local irreducible] wpList wpO H wpQuiet Code.wp Exit.then Exit.inBlock bodyPost Code.rounds Calls valid sameKey conflict lessV hless num between
-- forkledger/vote.between
set_option maxRecDepth 4000 in
set_option maxHeartbeats 1000000 in
theorem c82 (n lo hi : Int) (w : World) : Calls Try.prog 82 [i64 n, i64 lo, i64 hi].toArray w (Ret w (.bool (between n lo hi))) := by
  refine enter Try.func82 Try.ntmps82 rfl rfl ?_
  have hE := Ext.refl w
  refine wp_seq ?_
  refine W_region ?_
  refine L (D_v (R_assign rfl) ?_)
  refine S_nil ?_
  refine T_tn ?_
  refine wp_seq ?_
  refine W_region ?_
  refine L (D_v (R_move rfl) ?_)
  refine L (D_v (R_move rfl) ?_)
  refine L (D_v (R_geqI rfl rfl) ?_)
  refine L (D_v (R_move rfl) ?_)
  refine L (D_g1 rfl rfl (fun hb => R_move rfl) ?_)
  refine L (D_g1 rfl rfl (fun hb => R_move rfl) ?_)
  refine L (D_g1 rfl rfl (fun hb => R_leqI (cgE hb) (cgE hb)) ?_)
  refine L (D_v (R_pickA rfl rfl rfl) ?_)
  refine L (D_v (R_assign rfl) ?_)
  refine S_nil ?_
  refine T_tn ?_
  refine wp_ret ?_
  refine ret1 (v := .bool _) rfl rfl ⟨congrArg (fun b => Ending.returned (Value.bool b)) ?_, hE⟩
  simp only [between]

-- forkledger/forkledgerref6.agreement
set_option maxRecDepth 4000 in
set_option maxHeartbeats 1000000 in
theorem c83 (k : Int) (w : World) : Calls Try.prog 83 [i64 k].toArray w (Ret w (.bool (between k 1 4))) := by
  refine enter Try.func83 Try.ntmps83 rfl rfl ?_
  have hE := Ext.refl w
  refine wp_seq ?_
  refine W_region ?_
  refine L (D_v (R_assign rfl) ?_)
  refine S_nil ?_
  refine T_tn ?_
  refine wp_seq ?_
  refine W_region ?_
  refine L (D_v (R_move rfl) ?_)
  refine L (D_v (R_geqI rfl rfl) ?_)
  refine L (D_v (R_move rfl) ?_)
  refine L (D_g1 rfl rfl (fun hb => R_move rfl) ?_)
  refine L (D_g1 rfl rfl (fun hb => R_leqI (cgE hb) rfl) ?_)
  refine L (D_v (R_pickA rfl rfl rfl) ?_)
  refine L (D_v (R_assign rfl) ?_)
  refine S_nil ?_
  refine T_tn ?_
  refine wp_ret ?_
  refine ret1 (v := .bool _) rfl rfl ⟨congrArg (fun b => Ending.returned (Value.bool b)) ?_, hE⟩
  simp only [between]

-- forkledger/vote.SameKey
set_option maxRecDepth 4000 in
set_option maxHeartbeats 1000000 in
theorem c29 (a b : Vt) (w : World) : Calls Try.prog 29 [a.v, b.v].toArray w (Ret w (.bool (sameKey a b))) := by
  refine enter Try.func29 Try.ntmps29 rfl rfl ?_
  have hE := Ext.refl w
  refine wp_seq ?_
  refine W_region ?_
  refine L (D_box (c := (a).l) (rfl) (fun aB1 w1 e1 gB1 hB1 => ?_))
  replace hE := hE.trans e1
  refine L (D_box (c := (b).l) (rfl) (fun aB2 w2 e2 gB2 hB2 => ?_))
  replace hE := hE.trans e2
  replace hB1 := hB1.ext e2
  refine L (D_v (R_assign rfl) ?_)
  refine S_nil ?_
  refine T_tn ?_
  refine wp_seq ?_
  refine W_region ?_
  refine L (D_v (R_fieldAddr Try.runUnderlying26 rfl Try.sizeOf3 rfl) ?_)
  refine L (D_v (R_load Try.isAgg3 hB1 rfl rfl) ?_)
  refine L (D_v (R_fieldAddr Try.runUnderlying26 rfl Try.sizeOf3 rfl) ?_)
  refine L (D_v (R_load Try.isAgg3 hB2 rfl rfl) ?_)
  refine L (D_v (R_eqlI rfl rfl) ?_)
  refine L (D_v (R_move rfl) ?_)
  refine L (D_g1 rfl rfl (fun hb => R_fieldAddr Try.runUnderlying26 rfl Try.sizeOf24 rfl) ?_)
  refine L (D_g1 rfl rfl (fun hb => R_loadA (c := (a.parent).l) Try.isAgg24 Try.sizeOf24 hB1 (cgE hb) rfl rfl) ?_)
  refine L (D_g1 rfl rfl (fun hb => R_fieldAddr Try.runUnderlying26 rfl Try.sizeOf24 rfl) ?_)
  refine L (D_g1 rfl rfl (fun hb => R_loadA (c := (b.parent).l) Try.isAgg24 Try.sizeOf24 hB2 (cgE hb) rfl rfl) ?_)
  refine L (D_g1 rfl rfl (fun hb => R_eqlA Try.eqGuardType24 (eq24 (a.parent) (b.parent) _) (cgE hb) (cgE hb)) ?_)
  refine L (D_v (R_pickA rfl rfl rfl) ?_)
  refine L (D_v (R_move rfl) ?_)
  refine L (D_g1 rfl rfl (fun hb => R_fieldAddr Try.runUnderlying26 rfl Try.sizeOf3 rfl) ?_)
  refine L (D_g1 rfl rfl (fun hb => R_load Try.isAgg3 hB1 (cgE hb) rfl) ?_)
  refine L (D_g1 rfl rfl (fun hb => R_fieldAddr Try.runUnderlying26 rfl Try.sizeOf3 rfl) ?_)
  refine L (D_g1 rfl rfl (fun hb => R_load Try.isAgg3 hB2 (cgE hb) rfl) ?_)
  refine L (D_g1 rfl rfl (fun hb => R_eqlI (cgE hb) (cgE hb)) ?_)
  refine L (D_v (R_pickA rfl rfl rfl) ?_)
  refine L (D_v (R_move rfl) ?_)
  refine L (D_g1 rfl rfl (fun hb => R_fieldAddr Try.runUnderlying26 rfl Try.sizeOf3 rfl) ?_)
  refine L (D_g1 rfl rfl (fun hb => R_load Try.isAgg3 hB1 (cgE hb) rfl) ?_)
  refine L (D_g1 rfl rfl (fun hb => R_fieldAddr Try.runUnderlying26 rfl Try.sizeOf3 rfl) ?_)
  refine L (D_g1 rfl rfl (fun hb => R_load Try.isAgg3 hB2 (cgE hb) rfl) ?_)
  refine L (D_g1 rfl rfl (fun hb => R_eqlI (cgE hb) (cgE hb)) ?_)
  refine L (D_v (R_pickA rfl rfl rfl) ?_)
  refine L (D_v (R_move rfl) ?_)
  refine L (D_g1 rfl rfl (fun hb => R_fieldAddr Try.runUnderlying26 rfl Try.sizeOf3 rfl) ?_)
  refine L (D_g1 rfl rfl (fun hb => R_load Try.isAgg3 hB1 (cgE hb) rfl) ?_)
  refine L (D_g1 rfl rfl (fun hb => R_fieldAddr Try.runUnderlying26 rfl Try.sizeOf3 rfl) ?_)
  refine L (D_g1 rfl rfl (fun hb => R_load Try.isAgg3 hB2 (cgE hb) rfl) ?_)
  refine L (D_g1 rfl rfl (fun hb => R_eqlI (cgE hb) (cgE hb)) ?_)
  refine L (D_v (R_pickA rfl rfl rfl) ?_)
  refine L (D_v (R_assign rfl) ?_)
  refine S_nil ?_
  refine T_tn ?_
  refine wp_ret ?_
  refine ret1 (v := .bool _) rfl rfl ⟨congrArg (fun b => Ending.returned (Value.bool b)) ?_, hE⟩
  simp only [sameKey]

-- forkledger/forkledgerref6.SameKey
set_option maxRecDepth 4000 in
set_option maxHeartbeats 1000000 in
theorem c30 (a b : Vt) (w : World) : Calls Try.prog 30 [a.v, b.v].toArray w (Ret w (.bool (sameKey a b))) := by
  refine enter Try.func30 Try.ntmps30 rfl rfl ?_
  have hE := Ext.refl w
  refine wp_seq ?_
  refine W_region ?_
  refine L (D_box (c := (a).l) (rfl) (fun aB1 w1 e1 gB1 hB1 => ?_))
  replace hE := hE.trans e1
  refine L (D_box (c := (b).l) (rfl) (fun aB2 w2 e2 gB2 hB2 => ?_))
  replace hE := hE.trans e2
  replace hB1 := hB1.ext e2
  refine L (D_v (R_assign rfl) ?_)
  refine S_nil ?_
  refine T_tn ?_
  refine wp_seq ?_
  refine W_region ?_
  refine L (D_v (R_fieldAddr Try.runUnderlying26 rfl Try.sizeOf3 rfl) ?_)
  refine L (D_v (R_load Try.isAgg3 hB1 rfl rfl) ?_)
  refine L (D_v (R_fieldAddr Try.runUnderlying26 rfl Try.sizeOf3 rfl) ?_)
  refine L (D_v (R_load Try.isAgg3 hB2 rfl rfl) ?_)
  refine L (D_v (R_eqlI rfl rfl) ?_)
  refine L (D_v (R_move rfl) ?_)
  refine L (D_g1 rfl rfl (fun hb => R_fieldAddr Try.runUnderlying26 rfl Try.sizeOf24 rfl) ?_)
  refine L (D_g1 rfl rfl (fun hb => R_loadA (c := (a.parent).l) Try.isAgg24 Try.sizeOf24 hB1 (cgE hb) rfl rfl) ?_)
  refine L (D_g1 rfl rfl (fun hb => R_fieldAddr Try.runUnderlying26 rfl Try.sizeOf24 rfl) ?_)
  refine L (D_g1 rfl rfl (fun hb => R_loadA (c := (b.parent).l) Try.isAgg24 Try.sizeOf24 hB2 (cgE hb) rfl rfl) ?_)
  refine L (D_g1 rfl rfl (fun hb => R_eqlA Try.eqGuardType24 (eq24 (a.parent) (b.parent) _) (cgE hb) (cgE hb)) ?_)
  refine L (D_v (R_pickA rfl rfl rfl) ?_)
  refine L (D_v (R_move rfl) ?_)
  refine L (D_g1 rfl rfl (fun hb => R_fieldAddr Try.runUnderlying26 rfl Try.sizeOf3 rfl) ?_)
  refine L (D_g1 rfl rfl (fun hb => R_load Try.isAgg3 hB1 (cgE hb) rfl) ?_)
  refine L (D_g1 rfl rfl (fun hb => R_fieldAddr Try.runUnderlying26 rfl Try.sizeOf3 rfl) ?_)
  refine L (D_g1 rfl rfl (fun hb => R_load Try.isAgg3 hB2 (cgE hb) rfl) ?_)
  refine L (D_g1 rfl rfl (fun hb => R_eqlI (cgE hb) (cgE hb)) ?_)
  refine L (D_v (R_pickA rfl rfl rfl) ?_)
  refine L (D_v (R_move rfl) ?_)
  refine L (D_g1 rfl rfl (fun hb => R_fieldAddr Try.runUnderlying26 rfl Try.sizeOf3 rfl) ?_)
  refine L (D_g1 rfl rfl (fun hb => R_load Try.isAgg3 hB1 (cgE hb) rfl) ?_)
  refine L (D_g1 rfl rfl (fun hb => R_fieldAddr Try.runUnderlying26 rfl Try.sizeOf3 rfl) ?_)
  refine L (D_g1 rfl rfl (fun hb => R_load Try.isAgg3 hB2 (cgE hb) rfl) ?_)
  refine L (D_g1 rfl rfl (fun hb => R_eqlI (cgE hb) (cgE hb)) ?_)
  refine L (D_v (R_pickA rfl rfl rfl) ?_)
  refine L (D_v (R_move rfl) ?_)
  refine L (D_g1 rfl rfl (fun hb => R_fieldAddr Try.runUnderlying26 rfl Try.sizeOf3 rfl) ?_)
  refine L (D_g1 rfl rfl (fun hb => R_load Try.isAgg3 hB1 (cgE hb) rfl) ?_)
  refine L (D_g1 rfl rfl (fun hb => R_fieldAddr Try.runUnderlying26 rfl Try.sizeOf3 rfl) ?_)
  refine L (D_g1 rfl rfl (fun hb => R_load Try.isAgg3 hB2 (cgE hb) rfl) ?_)
  refine L (D_g1 rfl rfl (fun hb => R_eqlI (cgE hb) (cgE hb)) ?_)
  refine L (D_v (R_pickA rfl rfl rfl) ?_)
  refine L (D_v (R_assign rfl) ?_)
  refine S_nil ?_
  refine T_tn ?_
  refine wp_ret ?_
  refine ret1 (v := .bool _) rfl rfl ⟨congrArg (fun b => Ending.returned (Value.bool b)) ?_, hE⟩
  simp only [sameKey]

-- forkledger/hash.Number
set_option maxRecDepth 4000 in
set_option maxHeartbeats 1000000 in
theorem c108 (n : Nm) (w : World) : Calls Try.prog 108 [n.v].toArray w (Ret w (.int .u64 (num n))) := by
  refine enter Try.func108 Try.ntmps108 rfl rfl ?_
  have hE := Ext.refl w
  refine wp_seq ?_
  refine W_region ?_
  refine L (D_box (c := (n).l) (rfl) (fun aB1 w1 e1 gB1 hB1 => ?_))
  replace hE := hE.trans e1
  refine L (D_v (R_assign rfl) ?_)
  refine S_nil ?_
  refine T_tn ?_
  refine wp_seq ?_
  refine W_region ?_
  refine L (D_v (R_assign rfl) ?_)
  refine S_nil ?_
  refine T_tn ?_
  refine wp_seq ?_
  refine wp_seq ?_
  refine W_region ?_
  refine L (D_v (R_loadA (c := (n).l) Try.isAgg24 Try.sizeOf24 hB1 rfl rfl rfl) ?_)
  refine L (D_v (R_move rfl) ?_)
  refine S_nil ?_
  refine T_tn ?_
  refine wp_block ?_
  refine W_unroll 8 ?_
  refine W_round ?_
  refine wp_seq ?_
  refine W_region ?_
  refine L (D_v (R_cast (v' := .bool true) (R_lssI rfl rfl) rfl) ?_)
  refine S_nil ?_
  refine T_tn ?_
  refine wp_seq ?_
  refine W_ift rfl ?_
  refine wp_skip ?_
  refine T_tn ?_
  refine wp_seq ?_
  refine wp_block ?_
  refine wp_seq ?_
  refine W_region ?_
  refine L (D_v (R_index Try.runUnderlying24 Try.sizeOf5 Try.isAgg5 rfl rfl rfl (by decide) (by decide)) ?_)
  refine L (D_v (R_assign rfl) ?_)
  refine S_nil ?_
  refine T_tn ?_
  refine W_region ?_
  refine L (D_v (R_move rfl) ?_)
  refine L (D_v (R_shlC (z := 8) rfl rfl (by decide) (by decide)) ?_)
  refine L (D_v (R_move rfl) ?_)
  refine L (D_v (R_conv Try.runUnderlying5 Try.runUnderlying36 rfl) ?_)
  refine L (D_v (R_orI rfl rfl) ?_)
  refine L (D_v (R_assign rfl) ?_)
  refine S_nil ?_
  refine T_bn ?_
  refine T_tn ?_
  refine W_region ?_
  refine L (D_v (R_cast (v' := .int .i64 (1)) (R_addI rfl rfl) rfl) ?_)
  refine L (D_v (R_move rfl) ?_)
  refine S_nil ?_
  refine T_tn ?_
  refine W_round ?_
  refine wp_seq ?_
  refine W_region ?_
  refine L (D_v (R_cast (v' := .bool true) (R_lssI rfl rfl) rfl) ?_)
  refine S_nil ?_
  refine T_tn ?_
  refine wp_seq ?_
  refine W_ift rfl ?_
  refine wp_skip ?_
  refine T_tn ?_
  refine wp_seq ?_
  refine wp_block ?_
  refine wp_seq ?_
  refine W_region ?_
  refine L (D_v (R_index Try.runUnderlying24 Try.sizeOf5 Try.isAgg5 rfl rfl rfl (by decide) (by decide)) ?_)
  refine L (D_v (R_assign rfl) ?_)
  refine S_nil ?_
  refine T_tn ?_
  refine W_region ?_
  refine L (D_v (R_move rfl) ?_)
  refine L (D_v (R_shlC (z := 8) rfl rfl (by decide) (by decide)) ?_)
  refine L (D_v (R_move rfl) ?_)
  refine L (D_v (R_conv Try.runUnderlying5 Try.runUnderlying36 rfl) ?_)
  refine L (D_v (R_orI rfl rfl) ?_)
  refine L (D_v (R_assign rfl) ?_)
  refine S_nil ?_
  refine T_bn ?_
  refine T_tn ?_
  refine W_region ?_
  refine L (D_v (R_cast (v' := .int .i64 (2)) (R_addI rfl rfl) rfl) ?_)
  refine L (D_v (R_move rfl) ?_)
  refine S_nil ?_
  refine T_tn ?_
  refine W_round ?_
  refine wp_seq ?_
  refine W_region ?_
  refine L (D_v (R_cast (v' := .bool true) (R_lssI rfl rfl) rfl) ?_)
  refine S_nil ?_
  refine T_tn ?_
  refine wp_seq ?_
  refine W_ift rfl ?_
  refine wp_skip ?_
  refine T_tn ?_
  refine wp_seq ?_
  refine wp_block ?_
  refine wp_seq ?_
  refine W_region ?_
  refine L (D_v (R_index Try.runUnderlying24 Try.sizeOf5 Try.isAgg5 rfl rfl rfl (by decide) (by decide)) ?_)
  refine L (D_v (R_assign rfl) ?_)
  refine S_nil ?_
  refine T_tn ?_
  refine W_region ?_
  refine L (D_v (R_move rfl) ?_)
  refine L (D_v (R_shlC (z := 8) rfl rfl (by decide) (by decide)) ?_)
  refine L (D_v (R_move rfl) ?_)
  refine L (D_v (R_conv Try.runUnderlying5 Try.runUnderlying36 rfl) ?_)
  refine L (D_v (R_orI rfl rfl) ?_)
  refine L (D_v (R_assign rfl) ?_)
  refine S_nil ?_
  refine T_bn ?_
  refine T_tn ?_
  refine W_region ?_
  refine L (D_v (R_cast (v' := .int .i64 (3)) (R_addI rfl rfl) rfl) ?_)
  refine L (D_v (R_move rfl) ?_)
  refine S_nil ?_
  refine T_tn ?_
  refine W_round ?_
  refine wp_seq ?_
  refine W_region ?_
  refine L (D_v (R_cast (v' := .bool true) (R_lssI rfl rfl) rfl) ?_)
  refine S_nil ?_
  refine T_tn ?_
  refine wp_seq ?_
  refine W_ift rfl ?_
  refine wp_skip ?_
  refine T_tn ?_
  refine wp_seq ?_
  refine wp_block ?_
  refine wp_seq ?_
  refine W_region ?_
  refine L (D_v (R_index Try.runUnderlying24 Try.sizeOf5 Try.isAgg5 rfl rfl rfl (by decide) (by decide)) ?_)
  refine L (D_v (R_assign rfl) ?_)
  refine S_nil ?_
  refine T_tn ?_
  refine W_region ?_
  refine L (D_v (R_move rfl) ?_)
  refine L (D_v (R_shlC (z := 8) rfl rfl (by decide) (by decide)) ?_)
  refine L (D_v (R_move rfl) ?_)
  refine L (D_v (R_conv Try.runUnderlying5 Try.runUnderlying36 rfl) ?_)
  refine L (D_v (R_orI rfl rfl) ?_)
  refine L (D_v (R_assign rfl) ?_)
  refine S_nil ?_
  refine T_bn ?_
  refine T_tn ?_
  refine W_region ?_
  refine L (D_v (R_cast (v' := .int .i64 (4)) (R_addI rfl rfl) rfl) ?_)
  refine L (D_v (R_move rfl) ?_)
  refine S_nil ?_
  refine T_tn ?_
  refine W_round ?_
  refine wp_seq ?_
  refine W_region ?_
  refine L (D_v (R_cast (v' := .bool true) (R_lssI rfl rfl) rfl) ?_)
  refine S_nil ?_
  refine T_tn ?_
  refine wp_seq ?_
  refine W_ift rfl ?_
  refine wp_skip ?_
  refine T_tn ?_
  refine wp_seq ?_
  refine wp_block ?_
  refine wp_seq ?_
  refine W_region ?_
  refine L (D_v (R_index Try.runUnderlying24 Try.sizeOf5 Try.isAgg5 rfl rfl rfl (by decide) (by decide)) ?_)
  refine L (D_v (R_assign rfl) ?_)
  refine S_nil ?_
  refine T_tn ?_
  refine W_region ?_
  refine L (D_v (R_move rfl) ?_)
  refine L (D_v (R_shlC (z := 8) rfl rfl (by decide) (by decide)) ?_)
  refine L (D_v (R_move rfl) ?_)
  refine L (D_v (R_conv Try.runUnderlying5 Try.runUnderlying36 rfl) ?_)
  refine L (D_v (R_orI rfl rfl) ?_)
  refine L (D_v (R_assign rfl) ?_)
  refine S_nil ?_
  refine T_bn ?_
  refine T_tn ?_
  refine W_region ?_
  refine L (D_v (R_cast (v' := .int .i64 (5)) (R_addI rfl rfl) rfl) ?_)
  refine L (D_v (R_move rfl) ?_)
  refine S_nil ?_
  refine T_tn ?_
  refine W_round ?_
  refine wp_seq ?_
  refine W_region ?_
  refine L (D_v (R_cast (v' := .bool true) (R_lssI rfl rfl) rfl) ?_)
  refine S_nil ?_
  refine T_tn ?_
  refine wp_seq ?_
  refine W_ift rfl ?_
  refine wp_skip ?_
  refine T_tn ?_
  refine wp_seq ?_
  refine wp_block ?_
  refine wp_seq ?_
  refine W_region ?_
  refine L (D_v (R_index Try.runUnderlying24 Try.sizeOf5 Try.isAgg5 rfl rfl rfl (by decide) (by decide)) ?_)
  refine L (D_v (R_assign rfl) ?_)
  refine S_nil ?_
  refine T_tn ?_
  refine W_region ?_
  refine L (D_v (R_move rfl) ?_)
  refine L (D_v (R_shlC (z := 8) rfl rfl (by decide) (by decide)) ?_)
  refine L (D_v (R_move rfl) ?_)
  refine L (D_v (R_conv Try.runUnderlying5 Try.runUnderlying36 rfl) ?_)
  refine L (D_v (R_orI rfl rfl) ?_)
  refine L (D_v (R_assign rfl) ?_)
  refine S_nil ?_
  refine T_bn ?_
  refine T_tn ?_
  refine W_region ?_
  refine L (D_v (R_cast (v' := .int .i64 (6)) (R_addI rfl rfl) rfl) ?_)
  refine L (D_v (R_move rfl) ?_)
  refine S_nil ?_
  refine T_tn ?_
  refine W_round ?_
  refine wp_seq ?_
  refine W_region ?_
  refine L (D_v (R_cast (v' := .bool true) (R_lssI rfl rfl) rfl) ?_)
  refine S_nil ?_
  refine T_tn ?_
  refine wp_seq ?_
  refine W_ift rfl ?_
  refine wp_skip ?_
  refine T_tn ?_
  refine wp_seq ?_
  refine wp_block ?_
  refine wp_seq ?_
  refine W_region ?_
  refine L (D_v (R_index Try.runUnderlying24 Try.sizeOf5 Try.isAgg5 rfl rfl rfl (by decide) (by decide)) ?_)
  refine L (D_v (R_assign rfl) ?_)
  refine S_nil ?_
  refine T_tn ?_
  refine W_region ?_
  refine L (D_v (R_move rfl) ?_)
  refine L (D_v (R_shlC (z := 8) rfl rfl (by decide) (by decide)) ?_)
  refine L (D_v (R_move rfl) ?_)
  refine L (D_v (R_conv Try.runUnderlying5 Try.runUnderlying36 rfl) ?_)
  refine L (D_v (R_orI rfl rfl) ?_)
  refine L (D_v (R_assign rfl) ?_)
  refine S_nil ?_
  refine T_bn ?_
  refine T_tn ?_
  refine W_region ?_
  refine L (D_v (R_cast (v' := .int .i64 (7)) (R_addI rfl rfl) rfl) ?_)
  refine L (D_v (R_move rfl) ?_)
  refine S_nil ?_
  refine T_tn ?_
  refine W_round ?_
  refine wp_seq ?_
  refine W_region ?_
  refine L (D_v (R_cast (v' := .bool true) (R_lssI rfl rfl) rfl) ?_)
  refine S_nil ?_
  refine T_tn ?_
  refine wp_seq ?_
  refine W_ift rfl ?_
  refine wp_skip ?_
  refine T_tn ?_
  refine wp_seq ?_
  refine wp_block ?_
  refine wp_seq ?_
  refine W_region ?_
  refine L (D_v (R_index Try.runUnderlying24 Try.sizeOf5 Try.isAgg5 rfl rfl rfl (by decide) (by decide)) ?_)
  refine L (D_v (R_assign rfl) ?_)
  refine S_nil ?_
  refine T_tn ?_
  refine W_region ?_
  refine L (D_v (R_move rfl) ?_)
  refine L (D_v (R_shlC (z := 8) rfl rfl (by decide) (by decide)) ?_)
  refine L (D_v (R_move rfl) ?_)
  refine L (D_v (R_conv Try.runUnderlying5 Try.runUnderlying36 rfl) ?_)
  refine L (D_v (R_orI rfl rfl) ?_)
  refine L (D_v (R_assign rfl) ?_)
  refine S_nil ?_
  refine T_bn ?_
  refine T_tn ?_
  refine W_region ?_
  refine L (D_v (R_cast (v' := .int .i64 (8)) (R_addI rfl rfl) rfl) ?_)
  refine L (D_v (R_move rfl) ?_)
  refine S_nil ?_
  refine T_tn ?_
  refine W_round ?_
  refine wp_seq ?_
  refine W_region ?_
  refine L (D_v (R_cast (v' := .bool false) (R_lssI rfl rfl) rfl) ?_)
  refine S_nil ?_
  refine T_tn ?_
  refine wp_seq ?_
  refine W_iff rfl ?_
  refine wp_exit ?_
  refine T_te ?_
  refine T_te ?_
  refine T_be ?_
  refine T_tn ?_
  refine wp_seq ?_
  refine W_region ?_
  refine L (D_v (R_move rfl) ?_)
  refine L (D_v (R_assign rfl) ?_)
  refine S_nil ?_
  refine T_tn ?_
  refine wp_ret ?_
  refine ret1 (v := .int _ _) rfl rfl ⟨?_, hE⟩
  unfold num; rfl

-- forkledger/forkledgerref1.Number
set_option maxRecDepth 4000 in
set_option maxHeartbeats 1000000 in
theorem c109 (n : Nm) (w : World) : Calls Try.prog 109 [n.v].toArray w (Ret w (.int .u64 (num n))) := by
  refine enter Try.func109 Try.ntmps109 rfl rfl ?_
  have hE := Ext.refl w
  refine wp_seq ?_
  refine W_region ?_
  refine L (D_box (c := (n).l) (rfl) (fun aB1 w1 e1 gB1 hB1 => ?_))
  replace hE := hE.trans e1
  refine L (D_v (R_assign rfl) ?_)
  refine S_nil ?_
  refine T_tn ?_
  refine wp_seq ?_
  refine W_region ?_
  refine L (D_v (R_assign rfl) ?_)
  refine S_nil ?_
  refine T_tn ?_
  refine wp_seq ?_
  refine wp_seq ?_
  refine W_region ?_
  refine L (D_v (R_assign rfl) ?_)
  refine S_nil ?_
  refine T_tn ?_
  refine wp_block ?_
  refine W_unroll 8 ?_
  refine W_round ?_
  refine wp_seq ?_
  refine wp_seq ?_
  refine W_region ?_
  refine L (D_v (R_move rfl) ?_)
  refine L (D_v (R_cast (v' := .bool true) (R_lssI rfl rfl) rfl) ?_)
  refine S_nil ?_
  refine T_tn ?_
  refine W_ift rfl ?_
  refine wp_skip ?_
  refine T_tn ?_
  refine wp_seq ?_
  refine wp_block ?_
  refine W_region ?_
  refine L (D_v (R_move rfl) ?_)
  refine L (D_v (R_shlC (z := 8) rfl rfl (by decide) (by decide)) ?_)
  refine L (D_v (R_move rfl) ?_)
  refine L (D_v (R_indexAddrA Try.runUnderlying24 Try.sizeOf5 rfl rfl (by decide) (by decide)) ?_)
  refine L (D_v (R_load Try.isAgg5 hB1 rfl rfl) ?_)
  refine L (D_v (R_conv Try.runUnderlying5 Try.runUnderlying36 rfl) ?_)
  refine L (D_v (R_orI rfl rfl) ?_)
  refine L (D_v (R_assign rfl) ?_)
  refine S_nil ?_
  refine T_bn ?_
  refine T_tn ?_
  refine W_region ?_
  refine L (D_v (R_move rfl) ?_)
  refine L (D_v (R_cast (v' := .int .i64 (1)) (R_addI rfl rfl) rfl) ?_)
  refine L (D_v (R_assign rfl) ?_)
  refine S_nil ?_
  refine T_tn ?_
  refine W_round ?_
  refine wp_seq ?_
  refine wp_seq ?_
  refine W_region ?_
  refine L (D_v (R_move rfl) ?_)
  refine L (D_v (R_cast (v' := .bool true) (R_lssI rfl rfl) rfl) ?_)
  refine S_nil ?_
  refine T_tn ?_
  refine W_ift rfl ?_
  refine wp_skip ?_
  refine T_tn ?_
  refine wp_seq ?_
  refine wp_block ?_
  refine W_region ?_
  refine L (D_v (R_move rfl) ?_)
  refine L (D_v (R_shlC (z := 8) rfl rfl (by decide) (by decide)) ?_)
  refine L (D_v (R_move rfl) ?_)
  refine L (D_v (R_indexAddrA Try.runUnderlying24 Try.sizeOf5 rfl rfl (by decide) (by decide)) ?_)
  refine L (D_v (R_load Try.isAgg5 hB1 rfl rfl) ?_)
  refine L (D_v (R_conv Try.runUnderlying5 Try.runUnderlying36 rfl) ?_)
  refine L (D_v (R_orI rfl rfl) ?_)
  refine L (D_v (R_assign rfl) ?_)
  refine S_nil ?_
  refine T_bn ?_
  refine T_tn ?_
  refine W_region ?_
  refine L (D_v (R_move rfl) ?_)
  refine L (D_v (R_cast (v' := .int .i64 (2)) (R_addI rfl rfl) rfl) ?_)
  refine L (D_v (R_assign rfl) ?_)
  refine S_nil ?_
  refine T_tn ?_
  refine W_round ?_
  refine wp_seq ?_
  refine wp_seq ?_
  refine W_region ?_
  refine L (D_v (R_move rfl) ?_)
  refine L (D_v (R_cast (v' := .bool true) (R_lssI rfl rfl) rfl) ?_)
  refine S_nil ?_
  refine T_tn ?_
  refine W_ift rfl ?_
  refine wp_skip ?_
  refine T_tn ?_
  refine wp_seq ?_
  refine wp_block ?_
  refine W_region ?_
  refine L (D_v (R_move rfl) ?_)
  refine L (D_v (R_shlC (z := 8) rfl rfl (by decide) (by decide)) ?_)
  refine L (D_v (R_move rfl) ?_)
  refine L (D_v (R_indexAddrA Try.runUnderlying24 Try.sizeOf5 rfl rfl (by decide) (by decide)) ?_)
  refine L (D_v (R_load Try.isAgg5 hB1 rfl rfl) ?_)
  refine L (D_v (R_conv Try.runUnderlying5 Try.runUnderlying36 rfl) ?_)
  refine L (D_v (R_orI rfl rfl) ?_)
  refine L (D_v (R_assign rfl) ?_)
  refine S_nil ?_
  refine T_bn ?_
  refine T_tn ?_
  refine W_region ?_
  refine L (D_v (R_move rfl) ?_)
  refine L (D_v (R_cast (v' := .int .i64 (3)) (R_addI rfl rfl) rfl) ?_)
  refine L (D_v (R_assign rfl) ?_)
  refine S_nil ?_
  refine T_tn ?_
  refine W_round ?_
  refine wp_seq ?_
  refine wp_seq ?_
  refine W_region ?_
  refine L (D_v (R_move rfl) ?_)
  refine L (D_v (R_cast (v' := .bool true) (R_lssI rfl rfl) rfl) ?_)
  refine S_nil ?_
  refine T_tn ?_
  refine W_ift rfl ?_
  refine wp_skip ?_
  refine T_tn ?_
  refine wp_seq ?_
  refine wp_block ?_
  refine W_region ?_
  refine L (D_v (R_move rfl) ?_)
  refine L (D_v (R_shlC (z := 8) rfl rfl (by decide) (by decide)) ?_)
  refine L (D_v (R_move rfl) ?_)
  refine L (D_v (R_indexAddrA Try.runUnderlying24 Try.sizeOf5 rfl rfl (by decide) (by decide)) ?_)
  refine L (D_v (R_load Try.isAgg5 hB1 rfl rfl) ?_)
  refine L (D_v (R_conv Try.runUnderlying5 Try.runUnderlying36 rfl) ?_)
  refine L (D_v (R_orI rfl rfl) ?_)
  refine L (D_v (R_assign rfl) ?_)
  refine S_nil ?_
  refine T_bn ?_
  refine T_tn ?_
  refine W_region ?_
  refine L (D_v (R_move rfl) ?_)
  refine L (D_v (R_cast (v' := .int .i64 (4)) (R_addI rfl rfl) rfl) ?_)
  refine L (D_v (R_assign rfl) ?_)
  refine S_nil ?_
  refine T_tn ?_
  refine W_round ?_
  refine wp_seq ?_
  refine wp_seq ?_
  refine W_region ?_
  refine L (D_v (R_move rfl) ?_)
  refine L (D_v (R_cast (v' := .bool true) (R_lssI rfl rfl) rfl) ?_)
  refine S_nil ?_
  refine T_tn ?_
  refine W_ift rfl ?_
  refine wp_skip ?_
  refine T_tn ?_
  refine wp_seq ?_
  refine wp_block ?_
  refine W_region ?_
  refine L (D_v (R_move rfl) ?_)
  refine L (D_v (R_shlC (z := 8) rfl rfl (by decide) (by decide)) ?_)
  refine L (D_v (R_move rfl) ?_)
  refine L (D_v (R_indexAddrA Try.runUnderlying24 Try.sizeOf5 rfl rfl (by decide) (by decide)) ?_)
  refine L (D_v (R_load Try.isAgg5 hB1 rfl rfl) ?_)
  refine L (D_v (R_conv Try.runUnderlying5 Try.runUnderlying36 rfl) ?_)
  refine L (D_v (R_orI rfl rfl) ?_)
  refine L (D_v (R_assign rfl) ?_)
  refine S_nil ?_
  refine T_bn ?_
  refine T_tn ?_
  refine W_region ?_
  refine L (D_v (R_move rfl) ?_)
  refine L (D_v (R_cast (v' := .int .i64 (5)) (R_addI rfl rfl) rfl) ?_)
  refine L (D_v (R_assign rfl) ?_)
  refine S_nil ?_
  refine T_tn ?_
  refine W_round ?_
  refine wp_seq ?_
  refine wp_seq ?_
  refine W_region ?_
  refine L (D_v (R_move rfl) ?_)
  refine L (D_v (R_cast (v' := .bool true) (R_lssI rfl rfl) rfl) ?_)
  refine S_nil ?_
  refine T_tn ?_
  refine W_ift rfl ?_
  refine wp_skip ?_
  refine T_tn ?_
  refine wp_seq ?_
  refine wp_block ?_
  refine W_region ?_
  refine L (D_v (R_move rfl) ?_)
  refine L (D_v (R_shlC (z := 8) rfl rfl (by decide) (by decide)) ?_)
  refine L (D_v (R_move rfl) ?_)
  refine L (D_v (R_indexAddrA Try.runUnderlying24 Try.sizeOf5 rfl rfl (by decide) (by decide)) ?_)
  refine L (D_v (R_load Try.isAgg5 hB1 rfl rfl) ?_)
  refine L (D_v (R_conv Try.runUnderlying5 Try.runUnderlying36 rfl) ?_)
  refine L (D_v (R_orI rfl rfl) ?_)
  refine L (D_v (R_assign rfl) ?_)
  refine S_nil ?_
  refine T_bn ?_
  refine T_tn ?_
  refine W_region ?_
  refine L (D_v (R_move rfl) ?_)
  refine L (D_v (R_cast (v' := .int .i64 (6)) (R_addI rfl rfl) rfl) ?_)
  refine L (D_v (R_assign rfl) ?_)
  refine S_nil ?_
  refine T_tn ?_
  refine W_round ?_
  refine wp_seq ?_
  refine wp_seq ?_
  refine W_region ?_
  refine L (D_v (R_move rfl) ?_)
  refine L (D_v (R_cast (v' := .bool true) (R_lssI rfl rfl) rfl) ?_)
  refine S_nil ?_
  refine T_tn ?_
  refine W_ift rfl ?_
  refine wp_skip ?_
  refine T_tn ?_
  refine wp_seq ?_
  refine wp_block ?_
  refine W_region ?_
  refine L (D_v (R_move rfl) ?_)
  refine L (D_v (R_shlC (z := 8) rfl rfl (by decide) (by decide)) ?_)
  refine L (D_v (R_move rfl) ?_)
  refine L (D_v (R_indexAddrA Try.runUnderlying24 Try.sizeOf5 rfl rfl (by decide) (by decide)) ?_)
  refine L (D_v (R_load Try.isAgg5 hB1 rfl rfl) ?_)
  refine L (D_v (R_conv Try.runUnderlying5 Try.runUnderlying36 rfl) ?_)
  refine L (D_v (R_orI rfl rfl) ?_)
  refine L (D_v (R_assign rfl) ?_)
  refine S_nil ?_
  refine T_bn ?_
  refine T_tn ?_
  refine W_region ?_
  refine L (D_v (R_move rfl) ?_)
  refine L (D_v (R_cast (v' := .int .i64 (7)) (R_addI rfl rfl) rfl) ?_)
  refine L (D_v (R_assign rfl) ?_)
  refine S_nil ?_
  refine T_tn ?_
  refine W_round ?_
  refine wp_seq ?_
  refine wp_seq ?_
  refine W_region ?_
  refine L (D_v (R_move rfl) ?_)
  refine L (D_v (R_cast (v' := .bool true) (R_lssI rfl rfl) rfl) ?_)
  refine S_nil ?_
  refine T_tn ?_
  refine W_ift rfl ?_
  refine wp_skip ?_
  refine T_tn ?_
  refine wp_seq ?_
  refine wp_block ?_
  refine W_region ?_
  refine L (D_v (R_move rfl) ?_)
  refine L (D_v (R_shlC (z := 8) rfl rfl (by decide) (by decide)) ?_)
  refine L (D_v (R_move rfl) ?_)
  refine L (D_v (R_indexAddrA Try.runUnderlying24 Try.sizeOf5 rfl rfl (by decide) (by decide)) ?_)
  refine L (D_v (R_load Try.isAgg5 hB1 rfl rfl) ?_)
  refine L (D_v (R_conv Try.runUnderlying5 Try.runUnderlying36 rfl) ?_)
  refine L (D_v (R_orI rfl rfl) ?_)
  refine L (D_v (R_assign rfl) ?_)
  refine S_nil ?_
  refine T_bn ?_
  refine T_tn ?_
  refine W_region ?_
  refine L (D_v (R_move rfl) ?_)
  refine L (D_v (R_cast (v' := .int .i64 (8)) (R_addI rfl rfl) rfl) ?_)
  refine L (D_v (R_assign rfl) ?_)
  refine S_nil ?_
  refine T_tn ?_
  refine W_round ?_
  refine wp_seq ?_
  refine wp_seq ?_
  refine W_region ?_
  refine L (D_v (R_move rfl) ?_)
  refine L (D_v (R_cast (v' := .bool false) (R_lssI rfl rfl) rfl) ?_)
  refine S_nil ?_
  refine T_tn ?_
  refine W_iff rfl ?_
  refine wp_exit ?_
  refine T_te ?_
  refine T_te ?_
  refine T_be ?_
  refine T_tn ?_
  refine wp_seq ?_
  refine W_region ?_
  refine L (D_v (R_move rfl) ?_)
  refine L (D_v (R_assign rfl) ?_)
  refine S_nil ?_
  refine T_tn ?_
  refine wp_ret ?_
  refine ret1 (v := .int _ _) rfl rfl ⟨?_, hE⟩
  unfold num; rfl

-- forkledger/hash.Less
set_option maxRecDepth 4000 in
set_option maxHeartbeats 1000000 in
theorem c84 (a b : Nm) (w : World) : Calls Try.prog 84 [a.v, b.v].toArray w (Ret w (.bool (hless a b))) := by
  refine enter Try.func84 Try.ntmps84 rfl rfl ?_
  have hE := Ext.refl w
  refine wp_seq ?_
  refine W_region ?_
  refine L (D_box (c := (a).l) (rfl) (fun aB1 w1 e1 gB1 hB1 => ?_))
  replace hE := hE.trans e1
  refine L (D_box (c := (b).l) (rfl) (fun aB2 w2 e2 gB2 hB2 => ?_))
  replace hE := hE.trans e2
  replace hB1 := hB1.ext e2
  refine L (D_v (R_assign rfl) ?_)
  refine S_nil ?_
  refine T_tn ?_
  refine wp_seq ?_
  refine wp_seq ?_
  refine W_region ?_
  refine L (D_v (R_loadA (c := (a).l) Try.isAgg24 Try.sizeOf24 hB1 rfl rfl rfl) ?_)
  refine L (D_v (R_loadA (c := (b).l) Try.isAgg24 Try.sizeOf24 hB2 rfl rfl rfl) ?_)
  refine L (D_v (R_eqlA Try.eqGuardType24 (eq24 (a) (b) _) rfl rfl) ?_)
  refine S_nil ?_
  refine T_tn ?_
  refine W_if rfl (fun c3 => ?_) (fun c3 => ?_)
  ·
    refine wp_seq ?_
    refine W_region ?_
    refine L (D_v (R_assign rfl) ?_)
    refine S_nil ?_
    refine T_tn ?_
    refine wp_ret ?_
    refine T_tr ?_
    refine ret1 (v := .bool _) rfl rfl ⟨congrArg (fun b => Ending.returned (Value.bool b)) ?_, hE⟩
    simp_all [hless]
  ·
    refine wp_skip ?_
    refine T_tn ?_
    refine wp_seq ?_
    refine W_draw mixed (by kernel_rfl) ?_
    refine Q_v (fun w hw => R_loadA (c := (a).l) Try.isAgg24 Try.sizeOf24 (hB1.ext hw) rfl rfl rfl) ?_
    refine Q_call (fun w hw => R_callF Try.call108 rfl rfl) (fun w hw => c108 (a) _ ) ?_
    refine Q_v (fun w hw => R_loadA (c := (b).l) Try.isAgg24 Try.sizeOf24 (hB2.ext hw) rfl rfl rfl) ?_
    refine Q_call (fun w hw => R_callF Try.call108 rfl rfl) (fun w hw => c108 (b) _ ) ?_
    refine Q_v (fun w hw => R_lssI rfl rfl) ?_
    refine Q_v (fun w hw => R_assign rfl) ?_
    refine Q_nil (fun w3 e4 => ?_)
    replace hE := hE.trans e4
    replace hB1 := hB1.ext e4
    replace hB2 := hB2.ext e4
    refine T_tn ?_
    refine wp_ret ?_
    refine ret1 (v := .bool _) rfl rfl ⟨congrArg (fun b => Ending.returned (Value.bool b)) ?_, hE⟩
    simp_all [hless]

-- forkledger/forkledgerref1.Less
set_option maxRecDepth 4000 in
set_option maxHeartbeats 1000000 in
theorem c85 (a b : Nm) (w : World) : Calls Try.prog 85 [a.v, b.v].toArray w (Ret w (.bool (decide (num a < num b)))) := by
  refine enter Try.func85 Try.ntmps85 rfl rfl ?_
  have hE := Ext.refl w
  refine wp_seq ?_
  refine W_region ?_
  refine L (D_box (c := (a).l) (rfl) (fun aB1 w1 e1 gB1 hB1 => ?_))
  replace hE := hE.trans e1
  refine L (D_box (c := (b).l) (rfl) (fun aB2 w2 e2 gB2 hB2 => ?_))
  replace hE := hE.trans e2
  replace hB1 := hB1.ext e2
  refine L (D_v (R_assign rfl) ?_)
  refine S_nil ?_
  refine T_tn ?_
  refine wp_seq ?_
  refine W_draw mixed (by kernel_rfl) ?_
  refine Q_v (fun w hw => R_loadA (c := (a).l) Try.isAgg24 Try.sizeOf24 (hB1.ext hw) rfl rfl rfl) ?_
  refine Q_call (fun w hw => R_callF Try.call109 rfl rfl) (fun w hw => c109 (a) _ ) ?_
  refine Q_v (fun w hw => R_loadA (c := (b).l) Try.isAgg24 Try.sizeOf24 (hB2.ext hw) rfl rfl rfl) ?_
  refine Q_call (fun w hw => R_callF Try.call109 rfl rfl) (fun w hw => c109 (b) _ ) ?_
  refine Q_v (fun w hw => R_lssI rfl rfl) ?_
  refine Q_v (fun w hw => R_assign rfl) ?_
  refine Q_nil (fun w3 e3 => ?_)
  replace hE := hE.trans e3
  replace hB1 := hB1.ext e3
  replace hB2 := hB2.ext e3
  refine T_tn ?_
  refine wp_ret ?_
  refine ret1 (v := .bool _) rfl rfl ⟨congrArg (fun b => Ending.returned (Value.bool b)) ?_, hE⟩
  rfl

-- forkledger/vote.Valid
set_option maxRecDepth 4000 in
set_option maxHeartbeats 1000000 in
theorem c26 (a : Vt) (w : World) : Calls Try.prog 26 [a.v].toArray w (Ret w (.bool (valid a))) := by
  refine enter Try.func26 Try.ntmps26 rfl rfl ?_
  have hE := Ext.refl w
  refine wp_seq ?_
  refine W_region ?_
  refine L (D_box (c := (a).l) (rfl) (fun aB1 w1 e1 gB1 hB1 => ?_))
  replace hE := hE.trans e1
  refine L (D_v (R_assign rfl) ?_)
  refine S_nil ?_
  refine T_tn ?_
  refine wp_seq ?_
  refine wp_seq ?_
  refine W_region ?_
  refine L (D_v (R_fieldAddr Try.runUnderlying26 rfl Try.sizeOf3 rfl) ?_)
  refine L (D_v (R_load Try.isAgg3 hB1 rfl rfl) ?_)
  refine L (D_call (R_callF Try.call82 rfl rfl) (c82 _ _ _ _ ) (fun w2 e2 => ?_))
  replace hE := hE.trans e2
  replace hB1 := hB1.ext e2
  refine L (D_v (R_not rfl) ?_)
  refine L (D_v (R_move rfl) ?_)
  refine L (D_g1 rfl rfl (fun hb => R_fieldAddr Try.runUnderlying26 rfl Try.sizeOf3 rfl) ?_)
  refine L (D_g1 rfl rfl (fun hb => R_load Try.isAgg3 hB1 (cgE hb) rfl) ?_)
  refine L (D_gc1 rfl rfl (fun hb => R_callF Try.call82 (mapv3 (cgE hb) rfl rfl) rfl) (fun hb => c82 _ _ _ _ ) (fun w3 e3 => ?_))
  replace hE := hE.trans e3
  replace hB1 := hB1.ext e3
  refine L (D_g1 rfl rfl (fun hb => R_not (cgE hb)) ?_)
  refine L (D_v (R_pickO rfl rfl rfl) ?_)
  refine S_nil ?_
  refine T_tn ?_
  refine W_if rfl (fun c4 => ?_) (fun c4 => ?_)
  ·
    refine wp_seq ?_
    refine W_region ?_
    refine L (D_v (R_assign rfl) ?_)
    refine S_nil ?_
    refine T_tn ?_
    refine wp_ret ?_
    refine T_tr ?_
    refine ret1 (v := .bool _) rfl rfl ⟨congrArg (fun b => Ending.returned (Value.bool b)) ?_, hE⟩
    (clear hE hB1; unfold valid at *; (try unfold between at *); generalize decide (a.value = Nm.zero) = z at *; generalize bits BinOp.andNot IntKind.i64 a.support 1023 = s at *; rw [Bool.eq_iff_iff]; (repeat' split) <;> cases z <;> simp at * <;> omega)
  ·
    refine wp_skip ?_
    refine T_tn ?_
    refine wp_seq ?_
    refine wp_seq ?_
    refine W_draw mixed (by kernel_rfl) ?_
    refine Q_v (fun w hw => R_fieldAddr Try.runUnderlying26 rfl Try.sizeOf3 rfl) ?_
    refine Q_v (fun w hw => R_load Try.isAgg3 (hB1.ext hw) rfl rfl) ?_
    refine Q_v (fun w hw => R_eqlI rfl rfl) ?_
    refine Q_v (fun w hw => R_fieldAddr Try.runUnderlying26 rfl Try.sizeOf24 rfl) ?_
    refine Q_v (fun w hw => R_loadA (c := (a.value).l) Try.isAgg24 Try.sizeOf24 (hB1.ext hw) rfl rfl rfl) ?_
    refine Q_v (fun w hw => R_build0 Try.runUnderlying24 Try.sizeOf5 Try.zeroValue24) ?_
    refine Q_v (fun w hw => R_eqlA Try.eqGuardType24 (eq24 (a.value) (Nm.zero) _) rfl rfl) ?_
    refine Q_v (fun w hw => R_eqlB Try.underlying4 rfl rfl) ?_
    refine Q_v (fun w hw => R_move rfl) ?_
    refine Q_g1 rfl rfl (fun hb w hw => R_fieldAddr Try.runUnderlying26 rfl Try.sizeOf22 rfl) ?_
    refine Q_g1 rfl rfl (fun hb w hw => R_load Try.isAgg22 (hB1.ext hw) (cgE hb) rfl) ?_
    refine Q_g1 rfl rfl (fun hb w hw => R_andNotI (cgE hb) rfl) ?_
    refine Q_g1 rfl rfl (fun hb w hw => R_neqI (cgE hb) rfl) ?_
    refine Q_v (fun w hw => R_pickO rfl rfl rfl) ?_
    refine Q_nil (fun w4 e5 => ?_)
    replace hE := hE.trans e5
    replace hB1 := hB1.ext e5
    refine T_tn ?_
    refine W_if rfl (fun c6 => ?_) (fun c6 => ?_)
    ·
      refine wp_seq ?_
      refine W_region ?_
      refine L (D_v (R_assign rfl) ?_)
      refine S_nil ?_
      refine T_tn ?_
      refine wp_ret ?_
      refine T_tr ?_
      refine ret1 (v := .bool _) rfl rfl ⟨congrArg (fun b => Ending.returned (Value.bool b)) ?_, hE⟩
      (clear hE hB1; unfold valid at *; (try unfold between at *); generalize decide (a.value = Nm.zero) = z at *; generalize bits BinOp.andNot IntKind.i64 a.support 1023 = s at *; rw [Bool.eq_iff_iff]; (repeat' split) <;> cases z <;> simp at * <;> omega)
    ·
      refine wp_skip ?_
      refine T_tn ?_
      refine wp_seq ?_
      refine W_draw mixed (by kernel_rfl) ?_
      refine Q_v (fun w hw => R_fieldAddr Try.runUnderlying26 rfl Try.sizeOf3 rfl) ?_
      refine Q_v (fun w hw => R_load Try.isAgg3 (hB1.ext hw) rfl rfl) ?_
      refine Q_v (fun w hw => R_eqlI rfl rfl) ?_
      refine Q_v (fun w hw => R_move rfl) ?_
      refine Q_g1 rfl rfl (fun hb w hw => R_fieldAddr Try.runUnderlying26 rfl Try.sizeOf22 rfl) ?_
      refine Q_g1 rfl rfl (fun hb w hw => R_load Try.isAgg22 (hB1.ext hw) (cgE hb) rfl) ?_
      refine Q_g1 rfl rfl (fun hb w hw => R_eqlI (cgE hb) rfl) ?_
      refine Q_v (fun w hw => R_pickA rfl rfl rfl) ?_
      refine Q_v (fun w hw => R_fieldAddr Try.runUnderlying26 rfl Try.sizeOf3 rfl) ?_
      refine Q_v (fun w hw => R_load Try.isAgg3 (hB1.ext hw) rfl rfl) ?_
      refine Q_v (fun w hw => R_eqlI rfl rfl) ?_
      refine Q_v (fun w hw => R_assign rfl) ?_
      refine Q_v (fun w hw => R_assign rfl) ?_
      refine Q_v (fun w hw => R_assign rfl) ?_
      refine Q_nil (fun w5 e7 => ?_)
      replace hE := hE.trans e7
      replace hB1 := hB1.ext e7
      refine T_tn ?_
      refine wp_seq ?_
      refine wp_seq ?_
      refine W_region ?_
      refine L (D_v (R_fieldAddr Try.runUnderlying26 rfl Try.sizeOf3 rfl) ?_)
      refine L (D_v (R_load Try.isAgg3 hB1 rfl rfl) ?_)
      refine S_nil ?_
      refine T_tn ?_
      refine wp_block ?_
      refine wp_seq ?_
      refine wp_seq ?_
      refine W_region ?_
      refine L (D_v (R_eqlI rfl rfl) ?_)
      refine L (D_v (R_assign rfl) ?_)
      refine S_nil ?_
      refine T_tn ?_
      refine W_if rfl (fun c8 => ?_) (fun c8 => ?_)
      ·
        refine wp_skip ?_
        refine T_tn ?_
        refine W_if rfl (fun c9 => ?_) (fun c9 => ?_)
        ·
          refine W_region ?_
          refine L (D_v (R_assign rfl) ?_)
          refine S_nil ?_
          refine T_bn ?_
          refine T_tn ?_
          refine wp_seq ?_
          refine W_region ?_
          refine L (D_v (R_fieldAddr Try.runUnderlying26 rfl Try.sizeOf3 rfl) ?_)
          refine L (D_v (R_load Try.isAgg3 hB1 rfl rfl) ?_)
          refine L (D_v (R_move rfl) ?_)
          refine L (D_call (R_callF Try.call82 rfl rfl) (c82 _ _ _ _ ) (fun w6 e10 => ?_))
          replace hE := hE.trans e10
          replace hB1 := hB1.ext e10
          refine L (D_v (R_move rfl) ?_)
          refine L (D_g1 rfl rfl (fun hb => R_move rfl) ?_)
          refine L (D_v (R_pickA rfl rfl rfl) ?_)
          refine L (D_v (R_move rfl) ?_)
          refine L (D_g1 rfl rfl (fun hb => R_move rfl) ?_)
          refine L (D_v (R_pickA rfl rfl rfl) ?_)
          refine L (D_v (R_assign rfl) ?_)
          refine S_nil ?_
          refine T_tn ?_
          refine wp_ret ?_
          refine ret1 (v := .bool _) rfl rfl ⟨congrArg (fun b => Ending.returned (Value.bool b)) ?_, hE⟩
          (clear hE hB1; unfold valid at *; (try unfold between at *); generalize decide (a.value = Nm.zero) = z at *; generalize bits BinOp.andNot IntKind.i64 a.support 1023 = s at *; rw [Bool.eq_iff_iff]; (repeat' split) <;> cases z <;> simp at * <;> omega)
        ·
          refine wp_seq ?_
          refine W_region ?_
          refine L (D_v (R_eqlI rfl rfl) ?_)
          refine L (D_v (R_assign rfl) ?_)
          refine S_nil ?_
          refine T_tn ?_
          refine W_if rfl (fun c11 => ?_) (fun c11 => ?_)
          ·
            refine wp_seq ?_
            refine W_draw mixed (by kernel_rfl) ?_
            refine Q_v (fun w hw => R_fieldAddr Try.runUnderlying26 rfl Try.sizeOf3 rfl) ?_
            refine Q_v (fun w hw => R_load Try.isAgg3 (hB1.ext hw) rfl rfl) ?_
            refine Q_call (fun w hw => R_callF Try.call82 rfl rfl) (fun w hw => c82 _ _ _ _ ) ?_
            refine Q_v (fun w hw => R_fieldAddr Try.runUnderlying26 rfl Try.sizeOf3 rfl) ?_
            refine Q_v (fun w hw => R_load Try.isAgg3 (hB1.ext hw) rfl rfl) ?_
            refine Q_call (fun w hw => R_callF Try.call82 rfl rfl) (fun w hw => c82 _ _ _ _ ) ?_
            refine Q_v (fun w hw => R_assign rfl) ?_
            refine Q_v (fun w hw => R_assign rfl) ?_
            refine Q_v (fun w hw => R_assign rfl) ?_
            refine Q_nil (fun w7 e12 => ?_)
            replace hE := hE.trans e12
            replace hB1 := hB1.ext e12
            refine T_tn ?_
            refine W_region ?_
            refine L (D_v (R_move rfl) ?_)
            refine L (D_v (R_move rfl) ?_)
            refine L (D_g1 rfl rfl (fun hb => R_fieldAddr Try.runUnderlying26 rfl Try.sizeOf3 rfl) ?_)
            refine L (D_g1 rfl rfl (fun hb => R_load Try.isAgg3 hB1 (cgE hb) rfl) ?_)
            refine L (D_g1 rfl rfl (fun hb => R_neqI (cgE hb) rfl) ?_)
            refine L (D_g1 rfl rfl (fun hb => R_move (cgE hb)) ?_)
            refine L (D_g2 rfl rfl (fun hg hb => R_fieldAddr Try.runUnderlying26 rfl Try.sizeOf3 rfl) ?_)
            refine L (D_g2 rfl rfl (fun hg hb => R_load Try.isAgg3 hB1 (cgA hg hb) rfl) ?_)
            refine L (D_g2 rfl rfl (fun hg hb => R_neqI (cgA hg hb) rfl) ?_)
            refine L (D_g1 rfl rfl (fun hb => R_pickO (cgE hb) rfl (cgD hb)) ?_)
            refine L (D_g1 rfl rfl (fun hb => R_move (cgE hb)) ?_)
            refine L (D_g2 rfl rfl (fun hg hb => R_fieldAddr Try.runUnderlying26 rfl Try.sizeOf22 rfl) ?_)
            refine L (D_g2 rfl rfl (fun hg hb => R_load Try.isAgg22 hB1 (cgA hg hb) rfl) ?_)
            refine L (D_g2 rfl rfl (fun hg hb => R_eqlI (cgA hg hb) rfl) ?_)
            refine L (D_g1 rfl rfl (fun hb => R_pickO (cgE hb) rfl (cgD hb)) ?_)
            refine L (D_v (R_pickA rfl rfl rfl) ?_)
            refine L (D_v (R_assign rfl) ?_)
            refine S_nil ?_
            refine T_bn ?_
            refine T_tn ?_
            refine wp_seq ?_
            refine W_region ?_
            refine L (D_v (R_fieldAddr Try.runUnderlying26 rfl Try.sizeOf3 rfl) ?_)
            refine L (D_v (R_load Try.isAgg3 hB1 rfl rfl) ?_)
            refine L (D_v (R_move rfl) ?_)
            refine L (D_call (R_callF Try.call82 rfl rfl) (c82 _ _ _ _ ) (fun w8 e13 => ?_))
            replace hE := hE.trans e13
            replace hB1 := hB1.ext e13
            refine L (D_v (R_move rfl) ?_)
            refine L (D_g1 rfl rfl (fun hb => R_move rfl) ?_)
            refine L (D_v (R_pickA rfl rfl rfl) ?_)
            refine L (D_v (R_move rfl) ?_)
            refine L (D_g1 rfl rfl (fun hb => R_move rfl) ?_)
            refine L (D_v (R_pickA rfl rfl rfl) ?_)
            refine L (D_v (R_assign rfl) ?_)
            refine S_nil ?_
            refine T_tn ?_
            refine wp_ret ?_
            refine ret1 (v := .bool _) rfl rfl ⟨congrArg (fun b => Ending.returned (Value.bool b)) ?_, hE⟩
            (clear hE hB1; unfold valid at *; (try unfold between at *); generalize decide (a.value = Nm.zero) = z at *; generalize bits BinOp.andNot IntKind.i64 a.support 1023 = s at *; rw [Bool.eq_iff_iff]; (repeat' split) <;> cases z <;> simp at * <;> omega)
          ·
            refine wp_seq ?_
            refine W_region ?_
            refine L (D_v (R_eqlI rfl rfl) ?_)
            refine L (D_v (R_assign rfl) ?_)
            refine S_nil ?_
            refine T_tn ?_
            refine W_if rfl (fun c14 => ?_) (fun c14 => ?_)
            ·
              refine W_draw mixed (by kernel_rfl) ?_
              refine Q_v (fun w hw => R_fieldAddr Try.runUnderlying26 rfl Try.sizeOf3 rfl) ?_
              refine Q_v (fun w hw => R_load Try.isAgg3 (hB1.ext hw) rfl rfl) ?_
              refine Q_call (fun w hw => R_callF Try.call82 rfl rfl) (fun w hw => c82 _ _ _ _ ) ?_
              refine Q_v (fun w hw => R_fieldAddr Try.runUnderlying26 rfl Try.sizeOf3 rfl) ?_
              refine Q_v (fun w hw => R_load Try.isAgg3 (hB1.ext hw) rfl rfl) ?_
              refine Q_call (fun w hw => R_callF Try.call82 rfl rfl) (fun w hw => c82 _ _ _ _ ) ?_
              refine Q_v (fun w hw => R_assign rfl) ?_
              refine Q_v (fun w hw => R_assign rfl) ?_
              refine Q_v (fun w hw => R_assign rfl) ?_
              refine Q_nil (fun w9 e15 => ?_)
              replace hE := hE.trans e15
              replace hB1 := hB1.ext e15
              refine T_bn ?_
              refine T_tn ?_
              refine wp_seq ?_
              refine W_region ?_
              refine L (D_v (R_fieldAddr Try.runUnderlying26 rfl Try.sizeOf3 rfl) ?_)
              refine L (D_v (R_load Try.isAgg3 hB1 rfl rfl) ?_)
              refine L (D_v (R_move rfl) ?_)
              refine L (D_call (R_callF Try.call82 rfl rfl) (c82 _ _ _ _ ) (fun w10 e16 => ?_))
              replace hE := hE.trans e16
              replace hB1 := hB1.ext e16
              refine L (D_v (R_move rfl) ?_)
              refine L (D_g1 rfl rfl (fun hb => R_move rfl) ?_)
              refine L (D_v (R_pickA rfl rfl rfl) ?_)
              refine L (D_v (R_move rfl) ?_)
              refine L (D_g1 rfl rfl (fun hb => R_move rfl) ?_)
              refine L (D_v (R_pickA rfl rfl rfl) ?_)
              refine L (D_v (R_assign rfl) ?_)
              refine S_nil ?_
              refine T_tn ?_
              refine wp_ret ?_
              refine ret1 (v := .bool _) rfl rfl ⟨congrArg (fun b => Ending.returned (Value.bool b)) ?_, hE⟩
              (clear hE hB1; unfold valid at *; (try unfold between at *); generalize decide (a.value = Nm.zero) = z at *; generalize bits BinOp.andNot IntKind.i64 a.support 1023 = s at *; rw [Bool.eq_iff_iff]; (repeat' split) <;> cases z <;> simp at * <;> omega)
            ·
              refine wp_skip ?_
              refine T_bn ?_
              refine T_tn ?_
              refine wp_seq ?_
              refine W_region ?_
              refine L (D_v (R_fieldAddr Try.runUnderlying26 rfl Try.sizeOf3 rfl) ?_)
              refine L (D_v (R_load Try.isAgg3 hB1 rfl rfl) ?_)
              refine L (D_v (R_move rfl) ?_)
              refine L (D_call (R_callF Try.call82 rfl rfl) (c82 _ _ _ _ ) (fun w11 e17 => ?_))
              replace hE := hE.trans e17
              replace hB1 := hB1.ext e17
              refine L (D_v (R_move rfl) ?_)
              refine L (D_g1 rfl rfl (fun hb => R_move rfl) ?_)
              refine L (D_v (R_pickA rfl rfl rfl) ?_)
              refine L (D_v (R_move rfl) ?_)
              refine L (D_g1 rfl rfl (fun hb => R_move rfl) ?_)
              refine L (D_v (R_pickA rfl rfl rfl) ?_)
              refine L (D_v (R_assign rfl) ?_)
              refine S_nil ?_
              refine T_tn ?_
              refine wp_ret ?_
              refine ret1 (v := .bool _) rfl rfl ⟨congrArg (fun b => Ending.returned (Value.bool b)) ?_, hE⟩
              (clear hE hB1; unfold valid at *; (try unfold between at *); generalize decide (a.value = Nm.zero) = z at *; generalize bits BinOp.andNot IntKind.i64 a.support 1023 = s at *; rw [Bool.eq_iff_iff]; (repeat' split) <;> cases z <;> simp at * <;> omega)
      ·
        refine W_region ?_
        refine L (D_v (R_eqlI rfl rfl) ?_)
        refine L (D_v (R_assign rfl) ?_)
        refine S_nil ?_
        refine T_tn ?_
        refine W_if rfl (fun c18 => ?_) (fun c18 => ?_)
        ·
          refine W_region ?_
          refine L (D_v (R_assign rfl) ?_)
          refine S_nil ?_
          refine T_bn ?_
          refine T_tn ?_
          refine wp_seq ?_
          refine W_region ?_
          refine L (D_v (R_fieldAddr Try.runUnderlying26 rfl Try.sizeOf3 rfl) ?_)
          refine L (D_v (R_load Try.isAgg3 hB1 rfl rfl) ?_)
          refine L (D_v (R_move rfl) ?_)
          refine L (D_call (R_callF Try.call82 rfl rfl) (c82 _ _ _ _ ) (fun w12 e19 => ?_))
          replace hE := hE.trans e19
          replace hB1 := hB1.ext e19
          refine L (D_v (R_move rfl) ?_)
          refine L (D_g1 rfl rfl (fun hb => R_move rfl) ?_)
          refine L (D_v (R_pickA rfl rfl rfl) ?_)
          refine L (D_v (R_move rfl) ?_)
          refine L (D_g1 rfl rfl (fun hb => R_move rfl) ?_)
          refine L (D_v (R_pickA rfl rfl rfl) ?_)
          refine L (D_v (R_assign rfl) ?_)
          refine S_nil ?_
          refine T_tn ?_
          refine wp_ret ?_
          refine ret1 (v := .bool _) rfl rfl ⟨congrArg (fun b => Ending.returned (Value.bool b)) ?_, hE⟩
          (clear hE hB1; unfold valid at *; (try unfold between at *); generalize decide (a.value = Nm.zero) = z at *; generalize bits BinOp.andNot IntKind.i64 a.support 1023 = s at *; rw [Bool.eq_iff_iff]; (repeat' split) <;> cases z <;> simp at * <;> omega)
        ·
          refine wp_seq ?_
          refine W_region ?_
          refine L (D_v (R_eqlI rfl rfl) ?_)
          refine L (D_v (R_assign rfl) ?_)
          refine S_nil ?_
          refine T_tn ?_
          refine W_if rfl (fun c20 => ?_) (fun c20 => ?_)
          ·
            refine wp_seq ?_
            refine W_draw mixed (by kernel_rfl) ?_
            refine Q_v (fun w hw => R_fieldAddr Try.runUnderlying26 rfl Try.sizeOf3 rfl) ?_
            refine Q_v (fun w hw => R_load Try.isAgg3 (hB1.ext hw) rfl rfl) ?_
            refine Q_call (fun w hw => R_callF Try.call82 rfl rfl) (fun w hw => c82 _ _ _ _ ) ?_
            refine Q_v (fun w hw => R_fieldAddr Try.runUnderlying26 rfl Try.sizeOf3 rfl) ?_
            refine Q_v (fun w hw => R_load Try.isAgg3 (hB1.ext hw) rfl rfl) ?_
            refine Q_call (fun w hw => R_callF Try.call82 rfl rfl) (fun w hw => c82 _ _ _ _ ) ?_
            refine Q_v (fun w hw => R_assign rfl) ?_
            refine Q_v (fun w hw => R_assign rfl) ?_
            refine Q_v (fun w hw => R_assign rfl) ?_
            refine Q_nil (fun w13 e21 => ?_)
            replace hE := hE.trans e21
            replace hB1 := hB1.ext e21
            refine T_tn ?_
            refine W_region ?_
            refine L (D_v (R_move rfl) ?_)
            refine L (D_v (R_move rfl) ?_)
            refine L (D_g1 rfl rfl (fun hb => R_fieldAddr Try.runUnderlying26 rfl Try.sizeOf3 rfl) ?_)
            refine L (D_g1 rfl rfl (fun hb => R_load Try.isAgg3 hB1 (cgE hb) rfl) ?_)
            refine L (D_g1 rfl rfl (fun hb => R_neqI (cgE hb) rfl) ?_)
            refine L (D_g1 rfl rfl (fun hb => R_move (cgE hb)) ?_)
            refine L (D_g2 rfl rfl (fun hg hb => R_fieldAddr Try.runUnderlying26 rfl Try.sizeOf3 rfl) ?_)
            refine L (D_g2 rfl rfl (fun hg hb => R_load Try.isAgg3 hB1 (cgA hg hb) rfl) ?_)
            refine L (D_g2 rfl rfl (fun hg hb => R_neqI (cgA hg hb) rfl) ?_)
            refine L (D_g1 rfl rfl (fun hb => R_pickO (cgE hb) rfl (cgD hb)) ?_)
            refine L (D_g1 rfl rfl (fun hb => R_move (cgE hb)) ?_)
            refine L (D_g2 rfl rfl (fun hg hb => R_fieldAddr Try.runUnderlying26 rfl Try.sizeOf22 rfl) ?_)
            refine L (D_g2 rfl rfl (fun hg hb => R_load Try.isAgg22 hB1 (cgA hg hb) rfl) ?_)
            refine L (D_g2 rfl rfl (fun hg hb => R_eqlI (cgA hg hb) rfl) ?_)
            refine L (D_g1 rfl rfl (fun hb => R_pickO (cgE hb) rfl (cgD hb)) ?_)
            refine L (D_v (R_pickA rfl rfl rfl) ?_)
            refine L (D_v (R_assign rfl) ?_)
            refine S_nil ?_
            refine T_bn ?_
            refine T_tn ?_
            refine wp_seq ?_
            refine W_region ?_
            refine L (D_v (R_fieldAddr Try.runUnderlying26 rfl Try.sizeOf3 rfl) ?_)
            refine L (D_v (R_load Try.isAgg3 hB1 rfl rfl) ?_)
            refine L (D_v (R_move rfl) ?_)
            refine L (D_call (R_callF Try.call82 rfl rfl) (c82 _ _ _ _ ) (fun w14 e22 => ?_))
            replace hE := hE.trans e22
            replace hB1 := hB1.ext e22
            refine L (D_v (R_move rfl) ?_)
            refine L (D_g1 rfl rfl (fun hb => R_move rfl) ?_)
            refine L (D_v (R_pickA rfl rfl rfl) ?_)
            refine L (D_v (R_move rfl) ?_)
            refine L (D_g1 rfl rfl (fun hb => R_move rfl) ?_)
            refine L (D_v (R_pickA rfl rfl rfl) ?_)
            refine L (D_v (R_assign rfl) ?_)
            refine S_nil ?_
            refine T_tn ?_
            refine wp_ret ?_
            refine ret1 (v := .bool _) rfl rfl ⟨congrArg (fun b => Ending.returned (Value.bool b)) ?_, hE⟩
            (clear hE hB1; unfold valid at *; (try unfold between at *); generalize decide (a.value = Nm.zero) = z at *; generalize bits BinOp.andNot IntKind.i64 a.support 1023 = s at *; rw [Bool.eq_iff_iff]; (repeat' split) <;> cases z <;> simp at * <;> omega)
          ·
            refine wp_seq ?_
            refine W_region ?_
            refine L (D_v (R_eqlI rfl rfl) ?_)
            refine L (D_v (R_assign rfl) ?_)
            refine S_nil ?_
            refine T_tn ?_
            refine W_if rfl (fun c23 => ?_) (fun c23 => ?_)
            ·
              refine W_draw mixed (by kernel_rfl) ?_
              refine Q_v (fun w hw => R_fieldAddr Try.runUnderlying26 rfl Try.sizeOf3 rfl) ?_
              refine Q_v (fun w hw => R_load Try.isAgg3 (hB1.ext hw) rfl rfl) ?_
              refine Q_call (fun w hw => R_callF Try.call82 rfl rfl) (fun w hw => c82 _ _ _ _ ) ?_
              refine Q_v (fun w hw => R_fieldAddr Try.runUnderlying26 rfl Try.sizeOf3 rfl) ?_
              refine Q_v (fun w hw => R_load Try.isAgg3 (hB1.ext hw) rfl rfl) ?_
              refine Q_call (fun w hw => R_callF Try.call82 rfl rfl) (fun w hw => c82 _ _ _ _ ) ?_
              refine Q_v (fun w hw => R_assign rfl) ?_
              refine Q_v (fun w hw => R_assign rfl) ?_
              refine Q_v (fun w hw => R_assign rfl) ?_
              refine Q_nil (fun w15 e24 => ?_)
              replace hE := hE.trans e24
              replace hB1 := hB1.ext e24
              refine T_bn ?_
              refine T_tn ?_
              refine wp_seq ?_
              refine W_region ?_
              refine L (D_v (R_fieldAddr Try.runUnderlying26 rfl Try.sizeOf3 rfl) ?_)
              refine L (D_v (R_load Try.isAgg3 hB1 rfl rfl) ?_)
              refine L (D_v (R_move rfl) ?_)
              refine L (D_call (R_callF Try.call82 rfl rfl) (c82 _ _ _ _ ) (fun w16 e25 => ?_))
              replace hE := hE.trans e25
              replace hB1 := hB1.ext e25
              refine L (D_v (R_move rfl) ?_)
              refine L (D_g1 rfl rfl (fun hb => R_move rfl) ?_)
              refine L (D_v (R_pickA rfl rfl rfl) ?_)
              refine L (D_v (R_move rfl) ?_)
              refine L (D_g1 rfl rfl (fun hb => R_move rfl) ?_)
              refine L (D_v (R_pickA rfl rfl rfl) ?_)
              refine L (D_v (R_assign rfl) ?_)
              refine S_nil ?_
              refine T_tn ?_
              refine wp_ret ?_
              refine ret1 (v := .bool _) rfl rfl ⟨congrArg (fun b => Ending.returned (Value.bool b)) ?_, hE⟩
              (clear hE hB1; unfold valid at *; (try unfold between at *); generalize decide (a.value = Nm.zero) = z at *; generalize bits BinOp.andNot IntKind.i64 a.support 1023 = s at *; rw [Bool.eq_iff_iff]; (repeat' split) <;> cases z <;> simp at * <;> omega)
            ·
              refine wp_skip ?_
              refine T_bn ?_
              refine T_tn ?_
              refine wp_seq ?_
              refine W_region ?_
              refine L (D_v (R_fieldAddr Try.runUnderlying26 rfl Try.sizeOf3 rfl) ?_)
              refine L (D_v (R_load Try.isAgg3 hB1 rfl rfl) ?_)
              refine L (D_v (R_move rfl) ?_)
              refine L (D_call (R_callF Try.call82 rfl rfl) (c82 _ _ _ _ ) (fun w17 e26 => ?_))
              replace hE := hE.trans e26
              replace hB1 := hB1.ext e26
              refine L (D_v (R_move rfl) ?_)
              refine L (D_g1 rfl rfl (fun hb => R_move rfl) ?_)
              refine L (D_v (R_pickA rfl rfl rfl) ?_)
              refine L (D_v (R_move rfl) ?_)
              refine L (D_g1 rfl rfl (fun hb => R_move rfl) ?_)
              refine L (D_v (R_pickA rfl rfl rfl) ?_)
              refine L (D_v (R_assign rfl) ?_)
              refine S_nil ?_
              refine T_tn ?_
              refine wp_ret ?_
              refine ret1 (v := .bool _) rfl rfl ⟨congrArg (fun b => Ending.returned (Value.bool b)) ?_, hE⟩
              (clear hE hB1; unfold valid at *; (try unfold between at *); generalize decide (a.value = Nm.zero) = z at *; generalize bits BinOp.andNot IntKind.i64 a.support 1023 = s at *; rw [Bool.eq_iff_iff]; (repeat' split) <;> cases z <;> simp at * <;> omega)

-- forkledger/forkledgerref6.Valid
set_option maxRecDepth 4000 in
set_option maxHeartbeats 1000000 in
theorem c27 (a : Vt) (w : World) : Calls Try.prog 27 [a.v].toArray w (Ret w (.bool (valid a))) := by
  refine enter Try.func27 Try.ntmps27 rfl rfl ?_
  have hE := Ext.refl w
  refine wp_seq ?_
  refine W_region ?_
  refine L (D_box (c := (a).l) (rfl) (fun aB1 w1 e1 gB1 hB1 => ?_))
  replace hE := hE.trans e1
  refine L (D_v (R_assign rfl) ?_)
  refine S_nil ?_
  refine T_tn ?_
  refine wp_seq ?_
  refine wp_seq ?_
  refine W_region ?_
  refine L (D_v (R_fieldAddr Try.runUnderlying26 rfl Try.sizeOf3 rfl) ?_)
  refine L (D_v (R_load Try.isAgg3 hB1 rfl rfl) ?_)
  refine L (D_v (R_lssI rfl rfl) ?_)
  refine L (D_v (R_move rfl) ?_)
  refine L (D_g1 rfl rfl (fun hb => R_fieldAddr Try.runUnderlying26 rfl Try.sizeOf3 rfl) ?_)
  refine L (D_g1 rfl rfl (fun hb => R_load Try.isAgg3 hB1 (cgE hb) rfl) ?_)
  refine L (D_g1 rfl rfl (fun hb => R_gtrI (cgE hb) rfl) ?_)
  refine L (D_v (R_pickO rfl rfl rfl) ?_)
  refine L (D_v (R_move rfl) ?_)
  refine L (D_g1 rfl rfl (fun hb => R_fieldAddr Try.runUnderlying26 rfl Try.sizeOf3 rfl) ?_)
  refine L (D_g1 rfl rfl (fun hb => R_load Try.isAgg3 hB1 (cgE hb) rfl) ?_)
  refine L (D_g1 rfl rfl (fun hb => R_lssI (cgE hb) rfl) ?_)
  refine L (D_v (R_pickO rfl rfl rfl) ?_)
  refine L (D_v (R_move rfl) ?_)
  refine L (D_g1 rfl rfl (fun hb => R_fieldAddr Try.runUnderlying26 rfl Try.sizeOf3 rfl) ?_)
  refine L (D_g1 rfl rfl (fun hb => R_load Try.isAgg3 hB1 (cgE hb) rfl) ?_)
  refine L (D_g1 rfl rfl (fun hb => R_geqI (cgE hb) rfl) ?_)
  refine L (D_v (R_pickO rfl rfl rfl) ?_)
  refine L (D_v (R_move rfl) ?_)
  refine L (D_g1 rfl rfl (fun hb => R_fieldAddr Try.runUnderlying26 rfl Try.sizeOf22 rfl) ?_)
  refine L (D_g1 rfl rfl (fun hb => R_load Try.isAgg22 hB1 (cgE hb) rfl) ?_)
  refine L (D_g1 rfl rfl (fun hb => R_andNotI (cgE hb) rfl) ?_)
  refine L (D_g1 rfl rfl (fun hb => R_neqI (cgE hb) rfl) ?_)
  refine L (D_v (R_pickO rfl rfl rfl) ?_)
  refine S_nil ?_
  refine T_tn ?_
  refine W_if rfl (fun c2 => ?_) (fun c2 => ?_)
  ·
    refine wp_seq ?_
    refine W_region ?_
    refine L (D_v (R_assign rfl) ?_)
    refine S_nil ?_
    refine T_tn ?_
    refine wp_ret ?_
    refine T_tr ?_
    refine ret1 (v := .bool _) rfl rfl ⟨congrArg (fun b => Ending.returned (Value.bool b)) ?_, hE⟩
    (clear hE hB1; unfold valid at *; (try unfold between at *); generalize decide (a.value = Nm.zero) = z at *; generalize bits BinOp.andNot IntKind.i64 a.support 1023 = s at *; rw [Bool.eq_iff_iff]; (repeat' split) <;> cases z <;> simp at * <;> omega)
  ·
    refine wp_skip ?_
    refine T_tn ?_
    refine wp_seq ?_
    refine wp_seq ?_
    refine W_region ?_
    refine L (D_v (R_fieldAddr Try.runUnderlying26 rfl Try.sizeOf3 rfl) ?_)
    refine L (D_v (R_load Try.isAgg3 hB1 rfl rfl) ?_)
    refine L (D_call (R_callF Try.call83 rfl rfl) (c83 _ _ ) (fun w2 e3 => ?_))
    replace hE := hE.trans e3
    replace hB1 := hB1.ext e3
    refine L (D_v (R_move rfl) ?_)
    refine L (D_g1 rfl rfl (fun hb => R_fieldAddr Try.runUnderlying26 rfl Try.sizeOf3 rfl) ?_)
    refine L (D_g1 rfl rfl (fun hb => R_load Try.isAgg3 hB1 (cgE hb) rfl) ?_)
    refine L (D_g1 rfl rfl (fun hb => R_lssI (cgE hb) rfl) ?_)
    refine L (D_g1 rfl rfl (fun hb => R_move (cgE hb)) ?_)
    refine L (D_g2 rfl rfl (fun hg hb => R_fieldAddr Try.runUnderlying26 rfl Try.sizeOf3 rfl) ?_)
    refine L (D_g2 rfl rfl (fun hg hb => R_load Try.isAgg3 hB1 (cgA hg hb) rfl) ?_)
    refine L (D_g2 rfl rfl (fun hg hb => R_geqI (cgA hg hb) rfl) ?_)
    refine L (D_g1 rfl rfl (fun hb => R_pickO (cgE hb) rfl (cgD hb)) ?_)
    refine L (D_v (R_pickA rfl rfl rfl) ?_)
    refine L (D_v (R_move rfl) ?_)
    refine L (D_g1 rfl rfl (fun hb => R_fieldAddr Try.runUnderlying26 rfl Try.sizeOf3 rfl) ?_)
    refine L (D_g1 rfl rfl (fun hb => R_load Try.isAgg3 hB1 (cgE hb) rfl) ?_)
    refine L (D_gc1 rfl rfl (fun hb => R_callF Try.call83 (mapv1 (cgE hb)) rfl) (fun hb => c83 _ _ ) (fun w3 e4 => ?_))
    replace hE := hE.trans e4
    replace hB1 := hB1.ext e4
    refine L (D_g1 rfl rfl (fun hb => R_not (cgE hb)) ?_)
    refine L (D_g1 rfl rfl (fun hb => R_move (cgE hb)) ?_)
    refine L (D_g2 rfl rfl (fun hg hb => R_fieldAddr Try.runUnderlying26 rfl Try.sizeOf3 rfl) ?_)
    refine L (D_g2 rfl rfl (fun hg hb => R_load Try.isAgg3 hB1 (cgA hg hb) rfl) ?_)
    refine L (D_g2 rfl rfl (fun hg hb => R_neqI (cgA hg hb) rfl) ?_)
    refine L (D_g1 rfl rfl (fun hb => R_pickA (cgE hb) (cgD hb) rfl) ?_)
    refine L (D_v (R_pickO rfl rfl rfl) ?_)
    refine S_nil ?_
    refine T_tn ?_
    refine W_if rfl (fun c5 => ?_) (fun c5 => ?_)
    ·
      refine wp_seq ?_
      refine W_region ?_
      refine L (D_v (R_assign rfl) ?_)
      refine S_nil ?_
      refine T_tn ?_
      refine wp_ret ?_
      refine T_tr ?_
      refine ret1 (v := .bool _) rfl rfl ⟨congrArg (fun b => Ending.returned (Value.bool b)) ?_, hE⟩
      (clear hE hB1; unfold valid at *; (try unfold between at *); generalize decide (a.value = Nm.zero) = z at *; generalize bits BinOp.andNot IntKind.i64 a.support 1023 = s at *; rw [Bool.eq_iff_iff]; (repeat' split) <;> cases z <;> simp at * <;> omega)
    ·
      refine wp_skip ?_
      refine T_tn ?_
      refine wp_seq ?_
      refine wp_seq ?_
      refine W_draw mixed (by kernel_rfl) ?_
      refine Q_v (fun w hw => R_fieldAddr Try.runUnderlying26 rfl Try.sizeOf24 rfl) ?_
      refine Q_v (fun w hw => R_loadA (c := (a.value).l) Try.isAgg24 Try.sizeOf24 (hB1.ext hw) rfl rfl rfl) ?_
      refine Q_v (fun w hw => R_build0 Try.runUnderlying24 Try.sizeOf5 Try.zeroValue24) ?_
      refine Q_v (fun w hw => R_eqlA Try.eqGuardType24 (eq24 (a.value) (Nm.zero) _) rfl rfl) ?_
      refine Q_v (fun w hw => R_fieldAddr Try.runUnderlying26 rfl Try.sizeOf3 rfl) ?_
      refine Q_v (fun w hw => R_load Try.isAgg3 (hB1.ext hw) rfl rfl) ?_
      refine Q_v (fun w hw => R_eqlI rfl rfl) ?_
      refine Q_v (fun w hw => R_eqlB Try.underlying4 rfl rfl) ?_
      refine Q_nil (fun w4 e6 => ?_)
      replace hE := hE.trans e6
      replace hB1 := hB1.ext e6
      refine T_tn ?_
      refine W_if rfl (fun c7 => ?_) (fun c7 => ?_)
      ·
        refine wp_seq ?_
        refine W_region ?_
        refine L (D_v (R_assign rfl) ?_)
        refine S_nil ?_
        refine T_tn ?_
        refine wp_ret ?_
        refine T_tr ?_
        refine ret1 (v := .bool _) rfl rfl ⟨congrArg (fun b => Ending.returned (Value.bool b)) ?_, hE⟩
        (clear hE hB1; unfold valid at *; (try unfold between at *); generalize decide (a.value = Nm.zero) = z at *; generalize bits BinOp.andNot IntKind.i64 a.support 1023 = s at *; rw [Bool.eq_iff_iff]; (repeat' split) <;> cases z <;> simp at * <;> omega)
      ·
        refine wp_skip ?_
        refine T_tn ?_
        refine wp_seq ?_
        refine wp_seq ?_
        refine W_region ?_
        refine L (D_v (R_fieldAddr Try.runUnderlying26 rfl Try.sizeOf3 rfl) ?_)
        refine L (D_v (R_load Try.isAgg3 hB1 rfl rfl) ?_)
        refine S_nil ?_
        refine T_tn ?_
        refine wp_block ?_
        refine wp_seq ?_
        refine W_region ?_
        refine L (D_v (R_eqlI rfl rfl) ?_)
        refine L (D_v (R_assign rfl) ?_)
        refine S_nil ?_
        refine T_tn ?_
        refine W_if rfl (fun c8 => ?_) (fun c8 => ?_)
        ·
          refine wp_seq ?_
          refine W_region ?_
          refine L (D_v (R_fieldAddr Try.runUnderlying26 rfl Try.sizeOf3 rfl) ?_)
          refine L (D_v (R_load Try.isAgg3 hB1 rfl rfl) ?_)
          refine L (D_v (R_geqI rfl rfl) ?_)
          refine L (D_v (R_move rfl) ?_)
          refine L (D_g1 rfl rfl (fun hb => R_fieldAddr Try.runUnderlying26 rfl Try.sizeOf3 rfl) ?_)
          refine L (D_g1 rfl rfl (fun hb => R_load Try.isAgg3 hB1 (cgE hb) rfl) ?_)
          refine L (D_g1 rfl rfl (fun hb => R_leqI (cgE hb) rfl) ?_)
          refine L (D_v (R_pickA rfl rfl rfl) ?_)
          refine L (D_v (R_move rfl) ?_)
          refine L (D_g1 rfl rfl (fun hb => R_fieldAddr Try.runUnderlying26 rfl Try.sizeOf3 rfl) ?_)
          refine L (D_g1 rfl rfl (fun hb => R_load Try.isAgg3 hB1 (cgE hb) rfl) ?_)
          refine L (D_g1 rfl rfl (fun hb => R_eqlI (cgE hb) rfl) ?_)
          refine L (D_g1 rfl rfl (fun hb => R_move (cgE hb)) ?_)
          refine L (D_g2 rfl rfl (fun hg hb => R_fieldAddr Try.runUnderlying26 rfl Try.sizeOf3 rfl) ?_)
          refine L (D_g2 rfl rfl (fun hg hb => R_load Try.isAgg3 hB1 (cgA hg hb) rfl) ?_)
          refine L (D_g2 rfl rfl (fun hg hb => R_eqlI (cgA hg hb) rfl) ?_)
          refine L (D_g1 rfl rfl (fun hb => R_pickO (cgE hb) rfl (cgD hb)) ?_)
          refine L (D_v (R_pickA rfl rfl rfl) ?_)
          refine L (D_v (R_move rfl) ?_)
          refine L (D_g1 rfl rfl (fun hb => R_fieldAddr Try.runUnderlying26 rfl Try.sizeOf3 rfl) ?_)
          refine L (D_g1 rfl rfl (fun hb => R_load Try.isAgg3 hB1 (cgE hb) rfl) ?_)
          refine L (D_g1 rfl rfl (fun hb => R_neqI (cgE hb) rfl) ?_)
          refine L (D_g1 rfl rfl (fun hb => R_move (cgE hb)) ?_)
          refine L (D_g2 rfl rfl (fun hg hb => R_fieldAddr Try.runUnderlying26 rfl Try.sizeOf3 rfl) ?_)
          refine L (D_g2 rfl rfl (fun hg hb => R_load Try.isAgg3 hB1 (cgA hg hb) rfl) ?_)
          refine L (D_g2 rfl rfl (fun hg hb => R_neqI (cgA hg hb) rfl) ?_)
          refine L (D_g1 rfl rfl (fun hb => R_pickO (cgE hb) rfl (cgD hb)) ?_)
          refine L (D_g1 rfl rfl (fun hb => R_move (cgE hb)) ?_)
          refine L (D_g2 rfl rfl (fun hg hb => R_fieldAddr Try.runUnderlying26 rfl Try.sizeOf22 rfl) ?_)
          refine L (D_g2 rfl rfl (fun hg hb => R_load Try.isAgg22 hB1 (cgA hg hb) rfl) ?_)
          refine L (D_g2 rfl rfl (fun hg hb => R_eqlI (cgA hg hb) rfl) ?_)
          refine L (D_g1 rfl rfl (fun hb => R_pickO (cgE hb) rfl (cgD hb)) ?_)
          refine L (D_v (R_pickA rfl rfl rfl) ?_)
          refine L (D_v (R_assign rfl) ?_)
          refine S_nil ?_
          refine T_tn ?_
          refine wp_ret ?_
          refine T_br ?_
          refine T_tr ?_
          refine ret1 (v := .bool _) rfl rfl ⟨congrArg (fun b => Ending.returned (Value.bool b)) ?_, hE⟩
          (clear hE hB1; unfold valid at *; (try unfold between at *); generalize decide (a.value = Nm.zero) = z at *; generalize bits BinOp.andNot IntKind.i64 a.support 1023 = s at *; rw [Bool.eq_iff_iff]; (repeat' split) <;> cases z <;> simp at * <;> omega)
        ·
          refine wp_seq ?_
          refine W_region ?_
          refine L (D_v (R_eqlI rfl rfl) ?_)
          refine L (D_v (R_assign rfl) ?_)
          refine S_nil ?_
          refine T_tn ?_
          refine W_if rfl (fun c9 => ?_) (fun c9 => ?_)
          ·
            refine wp_seq ?_
            refine W_region ?_
            refine L (D_v (R_fieldAddr Try.runUnderlying26 rfl Try.sizeOf3 rfl) ?_)
            refine L (D_v (R_load Try.isAgg3 hB1 rfl rfl) ?_)
            refine L (D_v (R_geqI rfl rfl) ?_)
            refine L (D_v (R_move rfl) ?_)
            refine L (D_g1 rfl rfl (fun hb => R_fieldAddr Try.runUnderlying26 rfl Try.sizeOf3 rfl) ?_)
            refine L (D_g1 rfl rfl (fun hb => R_load Try.isAgg3 hB1 (cgE hb) rfl) ?_)
            refine L (D_g1 rfl rfl (fun hb => R_leqI (cgE hb) rfl) ?_)
            refine L (D_v (R_pickA rfl rfl rfl) ?_)
            refine L (D_v (R_move rfl) ?_)
            refine L (D_g1 rfl rfl (fun hb => R_fieldAddr Try.runUnderlying26 rfl Try.sizeOf3 rfl) ?_)
            refine L (D_g1 rfl rfl (fun hb => R_load Try.isAgg3 hB1 (cgE hb) rfl) ?_)
            refine L (D_g1 rfl rfl (fun hb => R_geqI (cgE hb) rfl) ?_)
            refine L (D_v (R_pickA rfl rfl rfl) ?_)
            refine L (D_v (R_move rfl) ?_)
            refine L (D_g1 rfl rfl (fun hb => R_fieldAddr Try.runUnderlying26 rfl Try.sizeOf3 rfl) ?_)
            refine L (D_g1 rfl rfl (fun hb => R_load Try.isAgg3 hB1 (cgE hb) rfl) ?_)
            refine L (D_g1 rfl rfl (fun hb => R_leqI (cgE hb) rfl) ?_)
            refine L (D_v (R_pickA rfl rfl rfl) ?_)
            refine L (D_v (R_assign rfl) ?_)
            refine S_nil ?_
            refine T_tn ?_
            refine wp_ret ?_
            refine T_br ?_
            refine T_tr ?_
            refine ret1 (v := .bool _) rfl rfl ⟨congrArg (fun b => Ending.returned (Value.bool b)) ?_, hE⟩
            (clear hE hB1; unfold valid at *; (try unfold between at *); generalize decide (a.value = Nm.zero) = z at *; generalize bits BinOp.andNot IntKind.i64 a.support 1023 = s at *; rw [Bool.eq_iff_iff]; (repeat' split) <;> cases z <;> simp at * <;> omega)
          ·
            refine wp_skip ?_
            refine T_bn ?_
            refine T_tn ?_
            refine wp_seq ?_
            refine W_region ?_
            refine L (D_v (R_fieldAddr Try.runUnderlying26 rfl Try.sizeOf3 rfl) ?_)
            refine L (D_v (R_load Try.isAgg3 hB1 rfl rfl) ?_)
            refine L (D_v (R_eqlI rfl rfl) ?_)
            refine L (D_v (R_move rfl) ?_)
            refine L (D_g1 rfl rfl (fun hb => R_fieldAddr Try.runUnderlying26 rfl Try.sizeOf3 rfl) ?_)
            refine L (D_g1 rfl rfl (fun hb => R_load Try.isAgg3 hB1 (cgE hb) rfl) ?_)
            refine L (D_g1 rfl rfl (fun hb => R_eqlI (cgE hb) rfl) ?_)
            refine L (D_v (R_pickA rfl rfl rfl) ?_)
            refine L (D_v (R_move rfl) ?_)
            refine L (D_g1 rfl rfl (fun hb => R_fieldAddr Try.runUnderlying26 rfl Try.sizeOf22 rfl) ?_)
            refine L (D_g1 rfl rfl (fun hb => R_load Try.isAgg22 hB1 (cgE hb) rfl) ?_)
            refine L (D_g1 rfl rfl (fun hb => R_eqlI (cgE hb) rfl) ?_)
            refine L (D_v (R_pickA rfl rfl rfl) ?_)
            refine L (D_v (R_assign rfl) ?_)
            refine S_nil ?_
            refine T_tn ?_
            refine wp_ret ?_
            refine ret1 (v := .bool _) rfl rfl ⟨congrArg (fun b => Ending.returned (Value.bool b)) ?_, hE⟩
            (clear hE hB1; unfold valid at *; (try unfold between at *); generalize decide (a.value = Nm.zero) = z at *; generalize bits BinOp.andNot IntKind.i64 a.support 1023 = s at *; rw [Bool.eq_iff_iff]; (repeat' split) <;> cases z <;> simp at * <;> omega)

-- forkledger/vote.Conflict
set_option maxRecDepth 4000 in
set_option maxHeartbeats 1000000 in
theorem c31 (a b : Vt) (w : World) : Calls Try.prog 31 [a.v, b.v].toArray w (Ret w (.bool (conflict a b))) := by
  refine enter Try.func31 Try.ntmps31 rfl rfl ?_
  have hE := Ext.refl w
  refine wp_seq ?_
  refine W_region ?_
  refine L (D_box (c := (a).l) (rfl) (fun aB1 w1 e1 gB1 hB1 => ?_))
  replace hE := hE.trans e1
  refine L (D_box (c := (b).l) (rfl) (fun aB2 w2 e2 gB2 hB2 => ?_))
  replace hE := hE.trans e2
  replace hB1 := hB1.ext e2
  refine L (D_v (R_assign rfl) ?_)
  refine S_nil ?_
  refine T_tn ?_
  refine wp_seq ?_
  refine W_region ?_
  refine L (D_v (R_loadA (c := (a).l) Try.isAgg26 Try.sizeOf26 hB1 rfl rfl rfl) ?_)
  refine L (D_v (R_loadA (c := (b).l) Try.isAgg26 Try.sizeOf26 hB2 rfl rfl rfl) ?_)
  refine L (D_v (R_neqA Try.eqGuardType26 (eq26 (a) (b) _) rfl rfl) ?_)
  refine L (D_v (R_move rfl) ?_)
  refine L (D_g1 rfl rfl (fun hb => R_loadA (c := (a).l) Try.isAgg26 Try.sizeOf26 hB1 rfl rfl rfl) ?_)
  refine L (D_g1 rfl rfl (fun hb => R_loadA (c := (b).l) Try.isAgg26 Try.sizeOf26 hB2 rfl rfl rfl) ?_)
  refine L (D_gc1 rfl rfl (fun hb => R_callF Try.call29 (mapv2 (cgE hb) (cgE hb)) rfl) (fun hb => c29 (a) (b) _ ) (fun w3 e3 => ?_))
  replace hE := hE.trans e3
  replace hB1 := hB1.ext e3
  replace hB2 := hB2.ext e3
  refine L (D_v (R_pickA rfl rfl rfl) ?_)
  refine L (D_v (R_move rfl) ?_)
  refine L (D_g1 rfl rfl (fun hb => R_loadA (c := (a).l) Try.isAgg26 Try.sizeOf26 hB1 rfl rfl rfl) ?_)
  refine L (D_gc1 rfl rfl (fun hb => R_callF Try.call26 (mapv1 (cgE hb)) rfl) (fun hb => c26 (a) _ ) (fun w4 e4 => ?_))
  replace hE := hE.trans e4
  replace hB1 := hB1.ext e4
  replace hB2 := hB2.ext e4
  refine L (D_v (R_pickA rfl rfl rfl) ?_)
  refine L (D_v (R_move rfl) ?_)
  refine L (D_g1 rfl rfl (fun hb => R_loadA (c := (b).l) Try.isAgg26 Try.sizeOf26 hB2 rfl rfl rfl) ?_)
  refine L (D_gc1 rfl rfl (fun hb => R_callF Try.call26 (mapv1 (cgE hb)) rfl) (fun hb => c26 (b) _ ) (fun w5 e5 => ?_))
  replace hE := hE.trans e5
  replace hB1 := hB1.ext e5
  replace hB2 := hB2.ext e5
  refine L (D_v (R_pickA rfl rfl rfl) ?_)
  refine L (D_v (R_assign rfl) ?_)
  refine S_nil ?_
  refine T_tn ?_
  refine wp_ret ?_
  refine ret1 (v := .bool _) rfl rfl ⟨congrArg (fun b => Ending.returned (Value.bool b)) ?_, hE⟩
  (simp only [conflict])

-- forkledger/forkledgerref6.Conflict
set_option maxRecDepth 4000 in
set_option maxHeartbeats 1000000 in
theorem c32 (a b : Vt) (w : World) : Calls Try.prog 32 [a.v, b.v].toArray w (Ret w (.bool (conflict a b))) := by
  refine enter Try.func32 Try.ntmps32 rfl rfl ?_
  have hE := Ext.refl w
  refine wp_seq ?_
  refine W_region ?_
  refine L (D_box (c := (a).l) (rfl) (fun aB1 w1 e1 gB1 hB1 => ?_))
  replace hE := hE.trans e1
  refine L (D_box (c := (b).l) (rfl) (fun aB2 w2 e2 gB2 hB2 => ?_))
  replace hE := hE.trans e2
  replace hB1 := hB1.ext e2
  refine L (D_v (R_assign rfl) ?_)
  refine S_nil ?_
  refine T_tn ?_
  refine wp_seq ?_
  refine W_region ?_
  refine L (D_v (R_loadA (c := (a).l) Try.isAgg26 Try.sizeOf26 hB1 rfl rfl rfl) ?_)
  refine L (D_call (R_callF Try.call27 rfl rfl) (c27 (a) _ ) (fun w3 e3 => ?_))
  replace hE := hE.trans e3
  replace hB1 := hB1.ext e3
  replace hB2 := hB2.ext e3
  refine L (D_v (R_move rfl) ?_)
  refine L (D_g1 rfl rfl (fun hb => R_loadA (c := (b).l) Try.isAgg26 Try.sizeOf26 hB2 rfl rfl rfl) ?_)
  refine L (D_gc1 rfl rfl (fun hb => R_callF Try.call27 (mapv1 (cgE hb)) rfl) (fun hb => c27 (b) _ ) (fun w4 e4 => ?_))
  replace hE := hE.trans e4
  replace hB1 := hB1.ext e4
  replace hB2 := hB2.ext e4
  refine L (D_v (R_pickA rfl rfl rfl) ?_)
  refine L (D_v (R_move rfl) ?_)
  refine L (D_g1 rfl rfl (fun hb => R_loadA (c := (a).l) Try.isAgg26 Try.sizeOf26 hB1 rfl rfl rfl) ?_)
  refine L (D_g1 rfl rfl (fun hb => R_loadA (c := (b).l) Try.isAgg26 Try.sizeOf26 hB2 rfl rfl rfl) ?_)
  refine L (D_gc1 rfl rfl (fun hb => R_callF Try.call30 (mapv2 (cgE hb) (cgE hb)) rfl) (fun hb => c30 (a) (b) _ ) (fun w5 e5 => ?_))
  replace hE := hE.trans e5
  replace hB1 := hB1.ext e5
  replace hB2 := hB2.ext e5
  refine L (D_v (R_pickA rfl rfl rfl) ?_)
  refine L (D_v (R_move rfl) ?_)
  refine L (D_g1 rfl rfl (fun hb => R_loadA (c := (a).l) Try.isAgg26 Try.sizeOf26 hB1 rfl rfl rfl) ?_)
  refine L (D_g1 rfl rfl (fun hb => R_loadA (c := (b).l) Try.isAgg26 Try.sizeOf26 hB2 rfl rfl rfl) ?_)
  refine L (D_g1 rfl rfl (fun hb => R_neqA Try.eqGuardType26 (eq26 (a) (b) _) (cgE hb) (cgE hb)) ?_)
  refine L (D_v (R_pickA rfl rfl rfl) ?_)
  refine L (D_v (R_assign rfl) ?_)
  refine S_nil ?_
  refine T_tn ?_
  refine wp_ret ?_
  refine ret1 (v := .bool _) rfl rfl ⟨congrArg (fun b => Ending.returned (Value.bool b)) ?_, hE⟩
  (simp only [conflict]; ac_rfl)

-- forkledger/vote.Less
set_option maxRecDepth 4000 in
set_option maxHeartbeats 1000000 in
theorem c33 (a b : Vt) (w : World) : Calls Try.prog 33 [a.v, b.v].toArray w (Ret w (.bool (lessV a b))) := by
  refine enter Try.func33 Try.ntmps33 rfl rfl ?_
  have hE := Ext.refl w
  refine wp_seq ?_
  refine W_region ?_
  refine L (D_box (c := (a).l) (rfl) (fun aB1 w1 e1 gB1 hB1 => ?_))
  have lB1 := Nat.le_trans hE.size gB1
  replace hE := hE.trans e1
  refine L (D_box (c := (b).l) (rfl) (fun aB2 w2 e2 gB2 hB2 => ?_))
  have lB2 := Nat.le_trans hE.size gB2
  have nB1B2 := hB1.ne gB2
  replace hE := hE.trans e2
  replace hB1 := hB1.ext e2
  refine L (D_v (R_assign rfl) ?_)
  refine S_nil ?_
  refine T_tn ?_
  refine wp_seq ?_
  refine wp_seq ?_
  refine W_region ?_
  refine L (D_v (R_fieldAddr Try.runUnderlying26 rfl Try.sizeOf24 rfl) ?_)
  refine L (D_v (R_loadA (c := (a.parent).l) Try.isAgg24 Try.sizeOf24 hB1 rfl rfl rfl) ?_)
  refine L (D_v (R_fieldAddr Try.runUnderlying26 rfl Try.sizeOf24 rfl) ?_)
  refine L (D_v (R_loadA (c := (b.parent).l) Try.isAgg24 Try.sizeOf24 hB2 rfl rfl rfl) ?_)
  refine L (D_v (R_neqA Try.eqGuardType24 (eq24 (a.parent) (b.parent) _) rfl rfl) ?_)
  refine S_nil ?_
  refine T_tn ?_
  refine W_if rfl (fun c3 => ?_) (fun c3 => ?_)
  ·
    refine wp_seq ?_
    refine W_region ?_
    refine L (D_v (R_fieldAddr Try.runUnderlying26 rfl Try.sizeOf24 rfl) ?_)
    refine L (D_v (R_loadA (c := (a.parent).l) Try.isAgg24 Try.sizeOf24 hB1 rfl rfl rfl) ?_)
    refine L (D_v (R_fieldAddr Try.runUnderlying26 rfl Try.sizeOf24 rfl) ?_)
    refine L (D_v (R_loadA (c := (b.parent).l) Try.isAgg24 Try.sizeOf24 hB2 rfl rfl rfl) ?_)
    refine L (D_call (R_callF Try.call84 rfl rfl) (c84 (a.parent) (b.parent) _ ) (fun w3 e4 => ?_))
    replace hE := hE.trans e4
    replace hB1 := hB1.ext e4
    replace hB2 := hB2.ext e4
    refine L (D_v (R_assign rfl) ?_)
    refine S_nil ?_
    refine T_tn ?_
    refine wp_ret ?_
    refine T_tr ?_
    refine ret1 (v := .bool _) rfl rfl ⟨congrArg (fun b => Ending.returned (Value.bool b)) ?_, hE⟩
    (clear hE hB1 hB2; (try clear hB3 hB4); unfold lessV; simp_all [hless])
  ·
    refine wp_skip ?_
    refine T_tn ?_
    refine wp_seq ?_
    refine W_region ?_
    refine L (D_v (R_fieldAddr Try.runUnderlying26 rfl Try.sizeOf3 rfl) ?_)
    refine L (D_v (R_load Try.isAgg3 hB1 rfl rfl) ?_)
    refine L (D_v (R_fieldAddr Try.runUnderlying26 rfl Try.sizeOf3 rfl) ?_)
    refine L (D_v (R_load Try.isAgg3 hB1 rfl rfl) ?_)
    refine L (D_v (R_fieldAddr Try.runUnderlying26 rfl Try.sizeOf3 rfl) ?_)
    refine L (D_v (R_load Try.isAgg3 hB1 rfl rfl) ?_)
    refine L (D_v (R_fieldAddr Try.runUnderlying26 rfl Try.sizeOf3 rfl) ?_)
    refine L (D_v (R_load Try.isAgg3 hB1 rfl rfl) ?_)
    refine L (D_v (R_fieldAddr Try.runUnderlying26 rfl Try.sizeOf3 rfl) ?_)
    refine L (D_v (R_load Try.isAgg3 hB1 rfl rfl) ?_)
    refine L (D_v (R_buildA (vs := [(0, i64 a.slot), (1, i64 a.round), (2, i64 a.kind), (3, i64 a.signer), (4, i64 a.choice)]) (c := [i64 a.slot, i64 a.round, i64 a.kind, i64 a.signer, i64 a.choice]) Try.runUnderlying92 Try.sizeOf3 Try.zeroValue92 rfl (fill92 _ _ _ _ _)) ?_)
    refine L (D_alloc Try.zeroValue92 rfl (fun aB3 w4 e5 gB3 hB3 => ?_))
    have lB3 := Nat.le_trans hE.size gB3
    have nB1B3 := hB1.ne gB3
    have nB2B3 := hB2.ne gB3
    replace hE := hE.trans e5
    replace hB1 := hB1.ext e5
    replace hB2 := hB2.ext e5
    refine L (D_storeA Try.sizeOf92 hB3 rfl rfl rfl rfl rfl (l' := [i64 a.slot, i64 a.round, i64 a.kind, i64 a.signer, i64 a.choice]) rfl (fun w5 k6 hB3 => ?_))
    replace hE := hE.kp k6 lB3
    replace hB1 := hB1.kp k6 nB1B3
    replace hB2 := hB2.kp k6 nB2B3
    refine S_nil ?_
    refine T_tn ?_
    refine wp_seq ?_
    refine W_region ?_
    refine L (D_v (R_fieldAddr Try.runUnderlying26 rfl Try.sizeOf3 rfl) ?_)
    refine L (D_v (R_load Try.isAgg3 hB2 rfl rfl) ?_)
    refine L (D_v (R_fieldAddr Try.runUnderlying26 rfl Try.sizeOf3 rfl) ?_)
    refine L (D_v (R_load Try.isAgg3 hB2 rfl rfl) ?_)
    refine L (D_v (R_fieldAddr Try.runUnderlying26 rfl Try.sizeOf3 rfl) ?_)
    refine L (D_v (R_load Try.isAgg3 hB2 rfl rfl) ?_)
    refine L (D_v (R_fieldAddr Try.runUnderlying26 rfl Try.sizeOf3 rfl) ?_)
    refine L (D_v (R_load Try.isAgg3 hB2 rfl rfl) ?_)
    refine L (D_v (R_fieldAddr Try.runUnderlying26 rfl Try.sizeOf3 rfl) ?_)
    refine L (D_v (R_load Try.isAgg3 hB2 rfl rfl) ?_)
    refine L (D_v (R_buildA (vs := [(0, i64 b.slot), (1, i64 b.round), (2, i64 b.kind), (3, i64 b.signer), (4, i64 b.choice)]) (c := [i64 b.slot, i64 b.round, i64 b.kind, i64 b.signer, i64 b.choice]) Try.runUnderlying92 Try.sizeOf3 Try.zeroValue92 rfl (fill92 _ _ _ _ _)) ?_)
    refine L (D_alloc Try.zeroValue92 rfl (fun aB4 w6 e7 gB4 hB4 => ?_))
    have lB4 := Nat.le_trans hE.size gB4
    have nB1B4 := hB1.ne gB4
    have nB2B4 := hB2.ne gB4
    have nB3B4 := hB3.ne gB4
    replace hE := hE.trans e7
    replace hB1 := hB1.ext e7
    replace hB2 := hB2.ext e7
    replace hB3 := hB3.ext e7
    refine L (D_storeA Try.sizeOf92 hB4 rfl rfl rfl rfl rfl (l' := [i64 b.slot, i64 b.round, i64 b.kind, i64 b.signer, i64 b.choice]) rfl (fun w7 k8 hB4 => ?_))
    replace hE := hE.kp k8 lB4
    replace hB1 := hB1.kp k8 nB1B4
    replace hB2 := hB2.kp k8 nB2B4
    replace hB3 := hB3.kp k8 nB3B4
    refine S_nil ?_
    refine T_tn ?_
    refine wp_seq ?_
    refine wp_seq ?_
    refine W_region ?_
    refine L (D_v (R_move rfl) ?_)
    refine S_nil ?_
    refine T_tn ?_
    refine wp_block ?_
    refine W_unroll 5 ?_
    refine W_round ?_
    refine wp_seq ?_
    refine W_region ?_
    refine L (D_v (R_cast (v' := .bool true) (R_lssI rfl rfl) rfl) ?_)
    refine S_nil ?_
    refine T_tn ?_
    refine wp_seq ?_
    refine W_ift rfl ?_
    refine wp_skip ?_
    refine T_tn ?_
    refine wp_seq ?_
    refine wp_block ?_
    refine wp_seq ?_
    refine W_region ?_
    refine L (D_v (R_move rfl) ?_)
    refine L (D_v (R_assign rfl) ?_)
    refine S_nil ?_
    refine T_tn ?_
    refine wp_seq ?_
    refine W_draw mixed (by kernel_rfl) ?_
    refine Q_v (fun w hw => R_move rfl) ?_
    refine Q_v (fun w hw => R_indexAddrA Try.runUnderlying92 Try.sizeOf3 rfl rfl (by decide) (by decide)) ?_
    refine Q_v (fun w hw => R_load Try.isAgg3 (hB3.ext hw) rfl rfl) ?_
    refine Q_v (fun w hw => R_move rfl) ?_
    refine Q_v (fun w hw => R_indexAddrA Try.runUnderlying92 Try.sizeOf3 rfl rfl (by decide) (by decide)) ?_
    refine Q_v (fun w hw => R_load Try.isAgg3 (hB4.ext hw) rfl rfl) ?_
    refine Q_v (fun w hw => R_neqI rfl rfl) ?_
    refine Q_nil (fun w8 e9 => ?_)
    replace hE := hE.trans e9
    replace hB1 := hB1.ext e9
    replace hB2 := hB2.ext e9
    replace hB3 := hB3.ext e9
    replace hB4 := hB4.ext e9
    refine T_tn ?_
    refine W_if rfl (fun c10 => ?_) (fun c10 => ?_)
    ·
      refine wp_seq ?_
      refine W_draw mixed (by kernel_rfl) ?_
      refine Q_v (fun w hw => R_move rfl) ?_
      refine Q_v (fun w hw => R_indexAddrA Try.runUnderlying92 Try.sizeOf3 rfl rfl (by decide) (by decide)) ?_
      refine Q_v (fun w hw => R_load Try.isAgg3 (hB3.ext hw) rfl rfl) ?_
      refine Q_v (fun w hw => R_move rfl) ?_
      refine Q_v (fun w hw => R_indexAddrA Try.runUnderlying92 Try.sizeOf3 rfl rfl (by decide) (by decide)) ?_
      refine Q_v (fun w hw => R_load Try.isAgg3 (hB4.ext hw) rfl rfl) ?_
      refine Q_v (fun w hw => R_lssI rfl rfl) ?_
      refine Q_v (fun w hw => R_assign rfl) ?_
      refine Q_nil (fun w9 e11 => ?_)
      replace hE := hE.trans e11
      replace hB1 := hB1.ext e11
      replace hB2 := hB2.ext e11
      replace hB3 := hB3.ext e11
      replace hB4 := hB4.ext e11
      refine T_tn ?_
      refine wp_ret ?_
      refine T_br ?_
      refine T_tr ?_
      refine T_tr ?_
      refine T_br ?_
      refine T_tr ?_
      refine ret1 (v := .bool _) rfl rfl ⟨congrArg (fun b => Ending.returned (Value.bool b)) ?_, hE⟩
      (clear hE hB1 hB2; (try clear hB3 hB4); unfold lessV; simp_all [hless])
    ·
      refine wp_skip ?_
      refine T_bn ?_
      refine T_tn ?_
      refine W_region ?_
      refine L (D_v (R_cast (v' := .int .i64 (1)) (R_addI rfl rfl) rfl) ?_)
      refine L (D_v (R_move rfl) ?_)
      refine S_nil ?_
      refine T_tn ?_
      refine W_round ?_
      refine wp_seq ?_
      refine W_region ?_
      refine L (D_v (R_cast (v' := .bool true) (R_lssI rfl rfl) rfl) ?_)
      refine S_nil ?_
      refine T_tn ?_
      refine wp_seq ?_
      refine W_ift rfl ?_
      refine wp_skip ?_
      refine T_tn ?_
      refine wp_seq ?_
      refine wp_block ?_
      refine wp_seq ?_
      refine W_region ?_
      refine L (D_v (R_move rfl) ?_)
      refine L (D_v (R_assign rfl) ?_)
      refine S_nil ?_
      refine T_tn ?_
      refine wp_seq ?_
      refine W_draw mixed (by kernel_rfl) ?_
      refine Q_v (fun w hw => R_move rfl) ?_
      refine Q_v (fun w hw => R_indexAddrA Try.runUnderlying92 Try.sizeOf3 rfl rfl (by decide) (by decide)) ?_
      refine Q_v (fun w hw => R_load Try.isAgg3 (hB3.ext hw) rfl rfl) ?_
      refine Q_v (fun w hw => R_move rfl) ?_
      refine Q_v (fun w hw => R_indexAddrA Try.runUnderlying92 Try.sizeOf3 rfl rfl (by decide) (by decide)) ?_
      refine Q_v (fun w hw => R_load Try.isAgg3 (hB4.ext hw) rfl rfl) ?_
      refine Q_v (fun w hw => R_neqI rfl rfl) ?_
      refine Q_nil (fun w10 e12 => ?_)
      replace hE := hE.trans e12
      replace hB1 := hB1.ext e12
      replace hB2 := hB2.ext e12
      replace hB3 := hB3.ext e12
      replace hB4 := hB4.ext e12
      refine T_tn ?_
      refine W_if rfl (fun c13 => ?_) (fun c13 => ?_)
      ·
        refine wp_seq ?_
        refine W_draw mixed (by kernel_rfl) ?_
        refine Q_v (fun w hw => R_move rfl) ?_
        refine Q_v (fun w hw => R_indexAddrA Try.runUnderlying92 Try.sizeOf3 rfl rfl (by decide) (by decide)) ?_
        refine Q_v (fun w hw => R_load Try.isAgg3 (hB3.ext hw) rfl rfl) ?_
        refine Q_v (fun w hw => R_move rfl) ?_
        refine Q_v (fun w hw => R_indexAddrA Try.runUnderlying92 Try.sizeOf3 rfl rfl (by decide) (by decide)) ?_
        refine Q_v (fun w hw => R_load Try.isAgg3 (hB4.ext hw) rfl rfl) ?_
        refine Q_v (fun w hw => R_lssI rfl rfl) ?_
        refine Q_v (fun w hw => R_assign rfl) ?_
        refine Q_nil (fun w11 e14 => ?_)
        replace hE := hE.trans e14
        replace hB1 := hB1.ext e14
        replace hB2 := hB2.ext e14
        replace hB3 := hB3.ext e14
        replace hB4 := hB4.ext e14
        refine T_tn ?_
        refine wp_ret ?_
        refine T_br ?_
        refine T_tr ?_
        refine T_tr ?_
        refine T_br ?_
        refine T_tr ?_
        refine ret1 (v := .bool _) rfl rfl ⟨congrArg (fun b => Ending.returned (Value.bool b)) ?_, hE⟩
        (clear hE hB1 hB2; (try clear hB3 hB4); unfold lessV; simp_all [hless])
      ·
        refine wp_skip ?_
        refine T_bn ?_
        refine T_tn ?_
        refine W_region ?_
        refine L (D_v (R_cast (v' := .int .i64 (2)) (R_addI rfl rfl) rfl) ?_)
        refine L (D_v (R_move rfl) ?_)
        refine S_nil ?_
        refine T_tn ?_
        refine W_round ?_
        refine wp_seq ?_
        refine W_region ?_
        refine L (D_v (R_cast (v' := .bool true) (R_lssI rfl rfl) rfl) ?_)
        refine S_nil ?_
        refine T_tn ?_
        refine wp_seq ?_
        refine W_ift rfl ?_
        refine wp_skip ?_
        refine T_tn ?_
        refine wp_seq ?_
        refine wp_block ?_
        refine wp_seq ?_
        refine W_region ?_
        refine L (D_v (R_move rfl) ?_)
        refine L (D_v (R_assign rfl) ?_)
        refine S_nil ?_
        refine T_tn ?_
        refine wp_seq ?_
        refine W_draw mixed (by kernel_rfl) ?_
        refine Q_v (fun w hw => R_move rfl) ?_
        refine Q_v (fun w hw => R_indexAddrA Try.runUnderlying92 Try.sizeOf3 rfl rfl (by decide) (by decide)) ?_
        refine Q_v (fun w hw => R_load Try.isAgg3 (hB3.ext hw) rfl rfl) ?_
        refine Q_v (fun w hw => R_move rfl) ?_
        refine Q_v (fun w hw => R_indexAddrA Try.runUnderlying92 Try.sizeOf3 rfl rfl (by decide) (by decide)) ?_
        refine Q_v (fun w hw => R_load Try.isAgg3 (hB4.ext hw) rfl rfl) ?_
        refine Q_v (fun w hw => R_neqI rfl rfl) ?_
        refine Q_nil (fun w12 e15 => ?_)
        replace hE := hE.trans e15
        replace hB1 := hB1.ext e15
        replace hB2 := hB2.ext e15
        replace hB3 := hB3.ext e15
        replace hB4 := hB4.ext e15
        refine T_tn ?_
        refine W_if rfl (fun c16 => ?_) (fun c16 => ?_)
        ·
          refine wp_seq ?_
          refine W_draw mixed (by kernel_rfl) ?_
          refine Q_v (fun w hw => R_move rfl) ?_
          refine Q_v (fun w hw => R_indexAddrA Try.runUnderlying92 Try.sizeOf3 rfl rfl (by decide) (by decide)) ?_
          refine Q_v (fun w hw => R_load Try.isAgg3 (hB3.ext hw) rfl rfl) ?_
          refine Q_v (fun w hw => R_move rfl) ?_
          refine Q_v (fun w hw => R_indexAddrA Try.runUnderlying92 Try.sizeOf3 rfl rfl (by decide) (by decide)) ?_
          refine Q_v (fun w hw => R_load Try.isAgg3 (hB4.ext hw) rfl rfl) ?_
          refine Q_v (fun w hw => R_lssI rfl rfl) ?_
          refine Q_v (fun w hw => R_assign rfl) ?_
          refine Q_nil (fun w13 e17 => ?_)
          replace hE := hE.trans e17
          replace hB1 := hB1.ext e17
          replace hB2 := hB2.ext e17
          replace hB3 := hB3.ext e17
          replace hB4 := hB4.ext e17
          refine T_tn ?_
          refine wp_ret ?_
          refine T_br ?_
          refine T_tr ?_
          refine T_tr ?_
          refine T_br ?_
          refine T_tr ?_
          refine ret1 (v := .bool _) rfl rfl ⟨congrArg (fun b => Ending.returned (Value.bool b)) ?_, hE⟩
          (clear hE hB1 hB2; (try clear hB3 hB4); unfold lessV; simp_all [hless])
        ·
          refine wp_skip ?_
          refine T_bn ?_
          refine T_tn ?_
          refine W_region ?_
          refine L (D_v (R_cast (v' := .int .i64 (3)) (R_addI rfl rfl) rfl) ?_)
          refine L (D_v (R_move rfl) ?_)
          refine S_nil ?_
          refine T_tn ?_
          refine W_round ?_
          refine wp_seq ?_
          refine W_region ?_
          refine L (D_v (R_cast (v' := .bool true) (R_lssI rfl rfl) rfl) ?_)
          refine S_nil ?_
          refine T_tn ?_
          refine wp_seq ?_
          refine W_ift rfl ?_
          refine wp_skip ?_
          refine T_tn ?_
          refine wp_seq ?_
          refine wp_block ?_
          refine wp_seq ?_
          refine W_region ?_
          refine L (D_v (R_move rfl) ?_)
          refine L (D_v (R_assign rfl) ?_)
          refine S_nil ?_
          refine T_tn ?_
          refine wp_seq ?_
          refine W_draw mixed (by kernel_rfl) ?_
          refine Q_v (fun w hw => R_move rfl) ?_
          refine Q_v (fun w hw => R_indexAddrA Try.runUnderlying92 Try.sizeOf3 rfl rfl (by decide) (by decide)) ?_
          refine Q_v (fun w hw => R_load Try.isAgg3 (hB3.ext hw) rfl rfl) ?_
          refine Q_v (fun w hw => R_move rfl) ?_
          refine Q_v (fun w hw => R_indexAddrA Try.runUnderlying92 Try.sizeOf3 rfl rfl (by decide) (by decide)) ?_
          refine Q_v (fun w hw => R_load Try.isAgg3 (hB4.ext hw) rfl rfl) ?_
          refine Q_v (fun w hw => R_neqI rfl rfl) ?_
          refine Q_nil (fun w14 e18 => ?_)
          replace hE := hE.trans e18
          replace hB1 := hB1.ext e18
          replace hB2 := hB2.ext e18
          replace hB3 := hB3.ext e18
          replace hB4 := hB4.ext e18
          refine T_tn ?_
          refine W_if rfl (fun c19 => ?_) (fun c19 => ?_)
          ·
            refine wp_seq ?_
            refine W_draw mixed (by kernel_rfl) ?_
            refine Q_v (fun w hw => R_move rfl) ?_
            refine Q_v (fun w hw => R_indexAddrA Try.runUnderlying92 Try.sizeOf3 rfl rfl (by decide) (by decide)) ?_
            refine Q_v (fun w hw => R_load Try.isAgg3 (hB3.ext hw) rfl rfl) ?_
            refine Q_v (fun w hw => R_move rfl) ?_
            refine Q_v (fun w hw => R_indexAddrA Try.runUnderlying92 Try.sizeOf3 rfl rfl (by decide) (by decide)) ?_
            refine Q_v (fun w hw => R_load Try.isAgg3 (hB4.ext hw) rfl rfl) ?_
            refine Q_v (fun w hw => R_lssI rfl rfl) ?_
            refine Q_v (fun w hw => R_assign rfl) ?_
            refine Q_nil (fun w15 e20 => ?_)
            replace hE := hE.trans e20
            replace hB1 := hB1.ext e20
            replace hB2 := hB2.ext e20
            replace hB3 := hB3.ext e20
            replace hB4 := hB4.ext e20
            refine T_tn ?_
            refine wp_ret ?_
            refine T_br ?_
            refine T_tr ?_
            refine T_tr ?_
            refine T_br ?_
            refine T_tr ?_
            refine ret1 (v := .bool _) rfl rfl ⟨congrArg (fun b => Ending.returned (Value.bool b)) ?_, hE⟩
            (clear hE hB1 hB2; (try clear hB3 hB4); unfold lessV; simp_all [hless])
          ·
            refine wp_skip ?_
            refine T_bn ?_
            refine T_tn ?_
            refine W_region ?_
            refine L (D_v (R_cast (v' := .int .i64 (4)) (R_addI rfl rfl) rfl) ?_)
            refine L (D_v (R_move rfl) ?_)
            refine S_nil ?_
            refine T_tn ?_
            refine W_round ?_
            refine wp_seq ?_
            refine W_region ?_
            refine L (D_v (R_cast (v' := .bool true) (R_lssI rfl rfl) rfl) ?_)
            refine S_nil ?_
            refine T_tn ?_
            refine wp_seq ?_
            refine W_ift rfl ?_
            refine wp_skip ?_
            refine T_tn ?_
            refine wp_seq ?_
            refine wp_block ?_
            refine wp_seq ?_
            refine W_region ?_
            refine L (D_v (R_move rfl) ?_)
            refine L (D_v (R_assign rfl) ?_)
            refine S_nil ?_
            refine T_tn ?_
            refine wp_seq ?_
            refine W_draw mixed (by kernel_rfl) ?_
            refine Q_v (fun w hw => R_move rfl) ?_
            refine Q_v (fun w hw => R_indexAddrA Try.runUnderlying92 Try.sizeOf3 rfl rfl (by decide) (by decide)) ?_
            refine Q_v (fun w hw => R_load Try.isAgg3 (hB3.ext hw) rfl rfl) ?_
            refine Q_v (fun w hw => R_move rfl) ?_
            refine Q_v (fun w hw => R_indexAddrA Try.runUnderlying92 Try.sizeOf3 rfl rfl (by decide) (by decide)) ?_
            refine Q_v (fun w hw => R_load Try.isAgg3 (hB4.ext hw) rfl rfl) ?_
            refine Q_v (fun w hw => R_neqI rfl rfl) ?_
            refine Q_nil (fun w16 e21 => ?_)
            replace hE := hE.trans e21
            replace hB1 := hB1.ext e21
            replace hB2 := hB2.ext e21
            replace hB3 := hB3.ext e21
            replace hB4 := hB4.ext e21
            refine T_tn ?_
            refine W_if rfl (fun c22 => ?_) (fun c22 => ?_)
            ·
              refine wp_seq ?_
              refine W_draw mixed (by kernel_rfl) ?_
              refine Q_v (fun w hw => R_move rfl) ?_
              refine Q_v (fun w hw => R_indexAddrA Try.runUnderlying92 Try.sizeOf3 rfl rfl (by decide) (by decide)) ?_
              refine Q_v (fun w hw => R_load Try.isAgg3 (hB3.ext hw) rfl rfl) ?_
              refine Q_v (fun w hw => R_move rfl) ?_
              refine Q_v (fun w hw => R_indexAddrA Try.runUnderlying92 Try.sizeOf3 rfl rfl (by decide) (by decide)) ?_
              refine Q_v (fun w hw => R_load Try.isAgg3 (hB4.ext hw) rfl rfl) ?_
              refine Q_v (fun w hw => R_lssI rfl rfl) ?_
              refine Q_v (fun w hw => R_assign rfl) ?_
              refine Q_nil (fun w17 e23 => ?_)
              replace hE := hE.trans e23
              replace hB1 := hB1.ext e23
              replace hB2 := hB2.ext e23
              replace hB3 := hB3.ext e23
              replace hB4 := hB4.ext e23
              refine T_tn ?_
              refine wp_ret ?_
              refine T_br ?_
              refine T_tr ?_
              refine T_tr ?_
              refine T_br ?_
              refine T_tr ?_
              refine ret1 (v := .bool _) rfl rfl ⟨congrArg (fun b => Ending.returned (Value.bool b)) ?_, hE⟩
              (clear hE hB1 hB2; (try clear hB3 hB4); unfold lessV; simp_all [hless])
            ·
              refine wp_skip ?_
              refine T_bn ?_
              refine T_tn ?_
              refine W_region ?_
              refine L (D_v (R_cast (v' := .int .i64 (5)) (R_addI rfl rfl) rfl) ?_)
              refine L (D_v (R_move rfl) ?_)
              refine S_nil ?_
              refine T_tn ?_
              refine W_round ?_
              refine wp_seq ?_
              refine W_region ?_
              refine L (D_v (R_cast (v' := .bool false) (R_lssI rfl rfl) rfl) ?_)
              refine S_nil ?_
              refine T_tn ?_
              refine wp_seq ?_
              refine W_iff rfl ?_
              refine wp_exit ?_
              refine T_te ?_
              refine T_te ?_
              refine T_be ?_
              refine T_tn ?_
              refine wp_seq ?_
              refine wp_seq ?_
              refine W_region ?_
              refine L (D_v (R_fieldAddr Try.runUnderlying26 rfl Try.sizeOf24 rfl) ?_)
              refine L (D_v (R_loadA (c := (a.value).l) Try.isAgg24 Try.sizeOf24 hB1 rfl rfl rfl) ?_)
              refine L (D_v (R_fieldAddr Try.runUnderlying26 rfl Try.sizeOf24 rfl) ?_)
              refine L (D_v (R_loadA (c := (b.value).l) Try.isAgg24 Try.sizeOf24 hB2 rfl rfl rfl) ?_)
              refine L (D_v (R_neqA Try.eqGuardType24 (eq24 (a.value) (b.value) _) rfl rfl) ?_)
              refine S_nil ?_
              refine T_tn ?_
              refine W_if rfl (fun c24 => ?_) (fun c24 => ?_)
              ·
                refine wp_seq ?_
                refine W_region ?_
                refine L (D_v (R_fieldAddr Try.runUnderlying26 rfl Try.sizeOf24 rfl) ?_)
                refine L (D_v (R_loadA (c := (a.value).l) Try.isAgg24 Try.sizeOf24 hB1 rfl rfl rfl) ?_)
                refine L (D_v (R_fieldAddr Try.runUnderlying26 rfl Try.sizeOf24 rfl) ?_)
                refine L (D_v (R_loadA (c := (b.value).l) Try.isAgg24 Try.sizeOf24 hB2 rfl rfl rfl) ?_)
                refine L (D_call (R_callF Try.call84 rfl rfl) (c84 (a.value) (b.value) _ ) (fun w18 e25 => ?_))
                replace hE := hE.trans e25
                replace hB1 := hB1.ext e25
                replace hB2 := hB2.ext e25
                replace hB3 := hB3.ext e25
                replace hB4 := hB4.ext e25
                refine L (D_v (R_assign rfl) ?_)
                refine S_nil ?_
                refine T_tn ?_
                refine wp_ret ?_
                refine T_tr ?_
                refine ret1 (v := .bool _) rfl rfl ⟨congrArg (fun b => Ending.returned (Value.bool b)) ?_, hE⟩
                (clear hE hB1 hB2; (try clear hB3 hB4); unfold lessV; simp_all [hless])
              ·
                refine wp_skip ?_
                refine T_tn ?_
                refine wp_seq ?_
                refine W_region ?_
                refine L (D_v (R_fieldAddr Try.runUnderlying26 rfl Try.sizeOf22 rfl) ?_)
                refine L (D_v (R_load Try.isAgg22 hB1 rfl rfl) ?_)
                refine L (D_v (R_fieldAddr Try.runUnderlying26 rfl Try.sizeOf22 rfl) ?_)
                refine L (D_v (R_load Try.isAgg22 hB2 rfl rfl) ?_)
                refine L (D_v (R_lssI rfl rfl) ?_)
                refine L (D_v (R_assign rfl) ?_)
                refine S_nil ?_
                refine T_tn ?_
                refine wp_ret ?_
                refine ret1 (v := .bool _) rfl rfl ⟨congrArg (fun b => Ending.returned (Value.bool b)) ?_, hE⟩
                (clear hE hB1 hB2; (try clear hB3 hB4); unfold lessV; simp_all [hless])

-- forkledger/forkledgerref6.Less
set_option maxRecDepth 4000 in
set_option maxHeartbeats 1000000 in
theorem c34 (a b : Vt) (w : World) : Calls Try.prog 34 [a.v, b.v].toArray w (Ret w (.bool (lessV a b))) := by
  refine enter Try.func34 Try.ntmps34 rfl rfl ?_
  have hE := Ext.refl w
  refine wp_seq ?_
  refine W_region ?_
  refine L (D_box (c := (a).l) (rfl) (fun aB1 w1 e1 gB1 hB1 => ?_))
  have lB1 := Nat.le_trans hE.size gB1
  replace hE := hE.trans e1
  refine L (D_box (c := (b).l) (rfl) (fun aB2 w2 e2 gB2 hB2 => ?_))
  have lB2 := Nat.le_trans hE.size gB2
  have nB1B2 := hB1.ne gB2
  replace hE := hE.trans e2
  replace hB1 := hB1.ext e2
  refine L (D_v (R_assign rfl) ?_)
  refine S_nil ?_
  refine T_tn ?_
  refine wp_seq ?_
  refine wp_seq ?_
  refine W_region ?_
  refine L (D_v (R_fieldAddr Try.runUnderlying26 rfl Try.sizeOf24 rfl) ?_)
  refine L (D_v (R_loadA (c := (a.parent).l) Try.isAgg24 Try.sizeOf24 hB1 rfl rfl rfl) ?_)
  refine L (D_v (R_fieldAddr Try.runUnderlying26 rfl Try.sizeOf24 rfl) ?_)
  refine L (D_v (R_loadA (c := (b.parent).l) Try.isAgg24 Try.sizeOf24 hB2 rfl rfl rfl) ?_)
  refine L (D_v (R_neqA Try.eqGuardType24 (eq24 (a.parent) (b.parent) _) rfl rfl) ?_)
  refine S_nil ?_
  refine T_tn ?_
  refine W_if rfl (fun c3 => ?_) (fun c3 => ?_)
  ·
    refine wp_seq ?_
    refine W_region ?_
    refine L (D_v (R_fieldAddr Try.runUnderlying26 rfl Try.sizeOf24 rfl) ?_)
    refine L (D_v (R_loadA (c := (a.parent).l) Try.isAgg24 Try.sizeOf24 hB1 rfl rfl rfl) ?_)
    refine L (D_v (R_fieldAddr Try.runUnderlying26 rfl Try.sizeOf24 rfl) ?_)
    refine L (D_v (R_loadA (c := (b.parent).l) Try.isAgg24 Try.sizeOf24 hB2 rfl rfl rfl) ?_)
    refine L (D_call (R_callF Try.call85 rfl rfl) (c85 (a.parent) (b.parent) _ ) (fun w3 e4 => ?_))
    replace hE := hE.trans e4
    replace hB1 := hB1.ext e4
    replace hB2 := hB2.ext e4
    refine L (D_v (R_assign rfl) ?_)
    refine S_nil ?_
    refine T_tn ?_
    refine wp_ret ?_
    refine T_tr ?_
    refine ret1 (v := .bool _) rfl rfl ⟨congrArg (fun b => Ending.returned (Value.bool b)) ?_, hE⟩
    (clear hE hB1 hB2; (try clear hB3 hB4); unfold lessV; simp_all [hless])
  ·
    refine wp_skip ?_
    refine T_tn ?_
    refine wp_seq ?_
    refine W_region ?_
    refine L (D_v (R_fieldAddr Try.runUnderlying26 rfl Try.sizeOf3 rfl) ?_)
    refine L (D_v (R_load Try.isAgg3 hB1 rfl rfl) ?_)
    refine L (D_v (R_fieldAddr Try.runUnderlying26 rfl Try.sizeOf3 rfl) ?_)
    refine L (D_v (R_load Try.isAgg3 hB1 rfl rfl) ?_)
    refine L (D_v (R_fieldAddr Try.runUnderlying26 rfl Try.sizeOf3 rfl) ?_)
    refine L (D_v (R_load Try.isAgg3 hB1 rfl rfl) ?_)
    refine L (D_v (R_fieldAddr Try.runUnderlying26 rfl Try.sizeOf3 rfl) ?_)
    refine L (D_v (R_load Try.isAgg3 hB1 rfl rfl) ?_)
    refine L (D_v (R_fieldAddr Try.runUnderlying26 rfl Try.sizeOf3 rfl) ?_)
    refine L (D_v (R_load Try.isAgg3 hB1 rfl rfl) ?_)
    refine L (D_v (R_buildA (vs := [(0, i64 a.slot), (1, i64 a.round), (2, i64 a.kind), (3, i64 a.signer), (4, i64 a.choice)]) (c := [i64 a.slot, i64 a.round, i64 a.kind, i64 a.signer, i64 a.choice]) Try.runUnderlying92 Try.sizeOf3 Try.zeroValue92 rfl (fill92 _ _ _ _ _)) ?_)
    refine L (D_alloc Try.zeroValue92 rfl (fun aB3 w4 e5 gB3 hB3 => ?_))
    have lB3 := Nat.le_trans hE.size gB3
    have nB1B3 := hB1.ne gB3
    have nB2B3 := hB2.ne gB3
    replace hE := hE.trans e5
    replace hB1 := hB1.ext e5
    replace hB2 := hB2.ext e5
    refine L (D_storeA Try.sizeOf92 hB3 rfl rfl rfl rfl rfl (l' := [i64 a.slot, i64 a.round, i64 a.kind, i64 a.signer, i64 a.choice]) rfl (fun w5 k6 hB3 => ?_))
    replace hE := hE.kp k6 lB3
    replace hB1 := hB1.kp k6 nB1B3
    replace hB2 := hB2.kp k6 nB2B3
    refine S_nil ?_
    refine T_tn ?_
    refine wp_seq ?_
    refine W_region ?_
    refine L (D_v (R_fieldAddr Try.runUnderlying26 rfl Try.sizeOf3 rfl) ?_)
    refine L (D_v (R_load Try.isAgg3 hB2 rfl rfl) ?_)
    refine L (D_v (R_fieldAddr Try.runUnderlying26 rfl Try.sizeOf3 rfl) ?_)
    refine L (D_v (R_load Try.isAgg3 hB2 rfl rfl) ?_)
    refine L (D_v (R_fieldAddr Try.runUnderlying26 rfl Try.sizeOf3 rfl) ?_)
    refine L (D_v (R_load Try.isAgg3 hB2 rfl rfl) ?_)
    refine L (D_v (R_fieldAddr Try.runUnderlying26 rfl Try.sizeOf3 rfl) ?_)
    refine L (D_v (R_load Try.isAgg3 hB2 rfl rfl) ?_)
    refine L (D_v (R_fieldAddr Try.runUnderlying26 rfl Try.sizeOf3 rfl) ?_)
    refine L (D_v (R_load Try.isAgg3 hB2 rfl rfl) ?_)
    refine L (D_v (R_buildA (vs := [(0, i64 b.slot), (1, i64 b.round), (2, i64 b.kind), (3, i64 b.signer), (4, i64 b.choice)]) (c := [i64 b.slot, i64 b.round, i64 b.kind, i64 b.signer, i64 b.choice]) Try.runUnderlying92 Try.sizeOf3 Try.zeroValue92 rfl (fill92 _ _ _ _ _)) ?_)
    refine L (D_alloc Try.zeroValue92 rfl (fun aB4 w6 e7 gB4 hB4 => ?_))
    have lB4 := Nat.le_trans hE.size gB4
    have nB1B4 := hB1.ne gB4
    have nB2B4 := hB2.ne gB4
    have nB3B4 := hB3.ne gB4
    replace hE := hE.trans e7
    replace hB1 := hB1.ext e7
    replace hB2 := hB2.ext e7
    replace hB3 := hB3.ext e7
    refine L (D_storeA Try.sizeOf92 hB4 rfl rfl rfl rfl rfl (l' := [i64 b.slot, i64 b.round, i64 b.kind, i64 b.signer, i64 b.choice]) rfl (fun w7 k8 hB4 => ?_))
    replace hE := hE.kp k8 lB4
    replace hB1 := hB1.kp k8 nB1B4
    replace hB2 := hB2.kp k8 nB2B4
    replace hB3 := hB3.kp k8 nB3B4
    refine S_nil ?_
    refine T_tn ?_
    refine wp_seq ?_
    refine wp_seq ?_
    refine W_region ?_
    refine L (D_v (R_assign rfl) ?_)
    refine S_nil ?_
    refine T_tn ?_
    refine wp_block ?_
    refine W_unroll 5 ?_
    refine W_round ?_
    refine wp_seq ?_
    refine wp_seq ?_
    refine W_region ?_
    refine L (D_v (R_move rfl) ?_)
    refine L (D_v (R_cast (v' := .bool true) (R_lssI rfl rfl) rfl) ?_)
    refine S_nil ?_
    refine T_tn ?_
    refine W_ift rfl ?_
    refine wp_skip ?_
    refine T_tn ?_
    refine wp_seq ?_
    refine wp_block ?_
    refine wp_seq ?_
    refine W_draw mixed (by kernel_rfl) ?_
    refine Q_v (fun w hw => R_move rfl) ?_
    refine Q_v (fun w hw => R_indexAddrA Try.runUnderlying92 Try.sizeOf3 rfl rfl (by decide) (by decide)) ?_
    refine Q_v (fun w hw => R_load Try.isAgg3 (hB3.ext hw) rfl rfl) ?_
    refine Q_v (fun w hw => R_move rfl) ?_
    refine Q_v (fun w hw => R_indexAddrA Try.runUnderlying92 Try.sizeOf3 rfl rfl (by decide) (by decide)) ?_
    refine Q_v (fun w hw => R_load Try.isAgg3 (hB4.ext hw) rfl rfl) ?_
    refine Q_v (fun w hw => R_neqI rfl rfl) ?_
    refine Q_nil (fun w8 e9 => ?_)
    replace hE := hE.trans e9
    replace hB1 := hB1.ext e9
    replace hB2 := hB2.ext e9
    replace hB3 := hB3.ext e9
    replace hB4 := hB4.ext e9
    refine T_tn ?_
    refine W_if rfl (fun c10 => ?_) (fun c10 => ?_)
    ·
      refine wp_seq ?_
      refine W_draw mixed (by kernel_rfl) ?_
      refine Q_v (fun w hw => R_move rfl) ?_
      refine Q_v (fun w hw => R_indexAddrA Try.runUnderlying92 Try.sizeOf3 rfl rfl (by decide) (by decide)) ?_
      refine Q_v (fun w hw => R_load Try.isAgg3 (hB3.ext hw) rfl rfl) ?_
      refine Q_v (fun w hw => R_move rfl) ?_
      refine Q_v (fun w hw => R_indexAddrA Try.runUnderlying92 Try.sizeOf3 rfl rfl (by decide) (by decide)) ?_
      refine Q_v (fun w hw => R_load Try.isAgg3 (hB4.ext hw) rfl rfl) ?_
      refine Q_v (fun w hw => R_lssI rfl rfl) ?_
      refine Q_v (fun w hw => R_assign rfl) ?_
      refine Q_nil (fun w9 e11 => ?_)
      replace hE := hE.trans e11
      replace hB1 := hB1.ext e11
      replace hB2 := hB2.ext e11
      replace hB3 := hB3.ext e11
      replace hB4 := hB4.ext e11
      refine T_tn ?_
      refine wp_ret ?_
      refine T_br ?_
      refine T_tr ?_
      refine T_tr ?_
      refine T_br ?_
      refine T_tr ?_
      refine ret1 (v := .bool _) rfl rfl ⟨congrArg (fun b => Ending.returned (Value.bool b)) ?_, hE⟩
      (clear hE hB1 hB2; (try clear hB3 hB4); unfold lessV; simp_all [hless])
    ·
      refine wp_skip ?_
      refine T_bn ?_
      refine T_tn ?_
      refine W_region ?_
      refine L (D_v (R_move rfl) ?_)
      refine L (D_v (R_cast (v' := .int .i64 (1)) (R_addI rfl rfl) rfl) ?_)
      refine L (D_v (R_assign rfl) ?_)
      refine S_nil ?_
      refine T_tn ?_
      refine W_round ?_
      refine wp_seq ?_
      refine wp_seq ?_
      refine W_region ?_
      refine L (D_v (R_move rfl) ?_)
      refine L (D_v (R_cast (v' := .bool true) (R_lssI rfl rfl) rfl) ?_)
      refine S_nil ?_
      refine T_tn ?_
      refine W_ift rfl ?_
      refine wp_skip ?_
      refine T_tn ?_
      refine wp_seq ?_
      refine wp_block ?_
      refine wp_seq ?_
      refine W_draw mixed (by kernel_rfl) ?_
      refine Q_v (fun w hw => R_move rfl) ?_
      refine Q_v (fun w hw => R_indexAddrA Try.runUnderlying92 Try.sizeOf3 rfl rfl (by decide) (by decide)) ?_
      refine Q_v (fun w hw => R_load Try.isAgg3 (hB3.ext hw) rfl rfl) ?_
      refine Q_v (fun w hw => R_move rfl) ?_
      refine Q_v (fun w hw => R_indexAddrA Try.runUnderlying92 Try.sizeOf3 rfl rfl (by decide) (by decide)) ?_
      refine Q_v (fun w hw => R_load Try.isAgg3 (hB4.ext hw) rfl rfl) ?_
      refine Q_v (fun w hw => R_neqI rfl rfl) ?_
      refine Q_nil (fun w10 e12 => ?_)
      replace hE := hE.trans e12
      replace hB1 := hB1.ext e12
      replace hB2 := hB2.ext e12
      replace hB3 := hB3.ext e12
      replace hB4 := hB4.ext e12
      refine T_tn ?_
      refine W_if rfl (fun c13 => ?_) (fun c13 => ?_)
      ·
        refine wp_seq ?_
        refine W_draw mixed (by kernel_rfl) ?_
        refine Q_v (fun w hw => R_move rfl) ?_
        refine Q_v (fun w hw => R_indexAddrA Try.runUnderlying92 Try.sizeOf3 rfl rfl (by decide) (by decide)) ?_
        refine Q_v (fun w hw => R_load Try.isAgg3 (hB3.ext hw) rfl rfl) ?_
        refine Q_v (fun w hw => R_move rfl) ?_
        refine Q_v (fun w hw => R_indexAddrA Try.runUnderlying92 Try.sizeOf3 rfl rfl (by decide) (by decide)) ?_
        refine Q_v (fun w hw => R_load Try.isAgg3 (hB4.ext hw) rfl rfl) ?_
        refine Q_v (fun w hw => R_lssI rfl rfl) ?_
        refine Q_v (fun w hw => R_assign rfl) ?_
        refine Q_nil (fun w11 e14 => ?_)
        replace hE := hE.trans e14
        replace hB1 := hB1.ext e14
        replace hB2 := hB2.ext e14
        replace hB3 := hB3.ext e14
        replace hB4 := hB4.ext e14
        refine T_tn ?_
        refine wp_ret ?_
        refine T_br ?_
        refine T_tr ?_
        refine T_tr ?_
        refine T_br ?_
        refine T_tr ?_
        refine ret1 (v := .bool _) rfl rfl ⟨congrArg (fun b => Ending.returned (Value.bool b)) ?_, hE⟩
        (clear hE hB1 hB2; (try clear hB3 hB4); unfold lessV; simp_all [hless])
      ·
        refine wp_skip ?_
        refine T_bn ?_
        refine T_tn ?_
        refine W_region ?_
        refine L (D_v (R_move rfl) ?_)
        refine L (D_v (R_cast (v' := .int .i64 (2)) (R_addI rfl rfl) rfl) ?_)
        refine L (D_v (R_assign rfl) ?_)
        refine S_nil ?_
        refine T_tn ?_
        refine W_round ?_
        refine wp_seq ?_
        refine wp_seq ?_
        refine W_region ?_
        refine L (D_v (R_move rfl) ?_)
        refine L (D_v (R_cast (v' := .bool true) (R_lssI rfl rfl) rfl) ?_)
        refine S_nil ?_
        refine T_tn ?_
        refine W_ift rfl ?_
        refine wp_skip ?_
        refine T_tn ?_
        refine wp_seq ?_
        refine wp_block ?_
        refine wp_seq ?_
        refine W_draw mixed (by kernel_rfl) ?_
        refine Q_v (fun w hw => R_move rfl) ?_
        refine Q_v (fun w hw => R_indexAddrA Try.runUnderlying92 Try.sizeOf3 rfl rfl (by decide) (by decide)) ?_
        refine Q_v (fun w hw => R_load Try.isAgg3 (hB3.ext hw) rfl rfl) ?_
        refine Q_v (fun w hw => R_move rfl) ?_
        refine Q_v (fun w hw => R_indexAddrA Try.runUnderlying92 Try.sizeOf3 rfl rfl (by decide) (by decide)) ?_
        refine Q_v (fun w hw => R_load Try.isAgg3 (hB4.ext hw) rfl rfl) ?_
        refine Q_v (fun w hw => R_neqI rfl rfl) ?_
        refine Q_nil (fun w12 e15 => ?_)
        replace hE := hE.trans e15
        replace hB1 := hB1.ext e15
        replace hB2 := hB2.ext e15
        replace hB3 := hB3.ext e15
        replace hB4 := hB4.ext e15
        refine T_tn ?_
        refine W_if rfl (fun c16 => ?_) (fun c16 => ?_)
        ·
          refine wp_seq ?_
          refine W_draw mixed (by kernel_rfl) ?_
          refine Q_v (fun w hw => R_move rfl) ?_
          refine Q_v (fun w hw => R_indexAddrA Try.runUnderlying92 Try.sizeOf3 rfl rfl (by decide) (by decide)) ?_
          refine Q_v (fun w hw => R_load Try.isAgg3 (hB3.ext hw) rfl rfl) ?_
          refine Q_v (fun w hw => R_move rfl) ?_
          refine Q_v (fun w hw => R_indexAddrA Try.runUnderlying92 Try.sizeOf3 rfl rfl (by decide) (by decide)) ?_
          refine Q_v (fun w hw => R_load Try.isAgg3 (hB4.ext hw) rfl rfl) ?_
          refine Q_v (fun w hw => R_lssI rfl rfl) ?_
          refine Q_v (fun w hw => R_assign rfl) ?_
          refine Q_nil (fun w13 e17 => ?_)
          replace hE := hE.trans e17
          replace hB1 := hB1.ext e17
          replace hB2 := hB2.ext e17
          replace hB3 := hB3.ext e17
          replace hB4 := hB4.ext e17
          refine T_tn ?_
          refine wp_ret ?_
          refine T_br ?_
          refine T_tr ?_
          refine T_tr ?_
          refine T_br ?_
          refine T_tr ?_
          refine ret1 (v := .bool _) rfl rfl ⟨congrArg (fun b => Ending.returned (Value.bool b)) ?_, hE⟩
          (clear hE hB1 hB2; (try clear hB3 hB4); unfold lessV; simp_all [hless])
        ·
          refine wp_skip ?_
          refine T_bn ?_
          refine T_tn ?_
          refine W_region ?_
          refine L (D_v (R_move rfl) ?_)
          refine L (D_v (R_cast (v' := .int .i64 (3)) (R_addI rfl rfl) rfl) ?_)
          refine L (D_v (R_assign rfl) ?_)
          refine S_nil ?_
          refine T_tn ?_
          refine W_round ?_
          refine wp_seq ?_
          refine wp_seq ?_
          refine W_region ?_
          refine L (D_v (R_move rfl) ?_)
          refine L (D_v (R_cast (v' := .bool true) (R_lssI rfl rfl) rfl) ?_)
          refine S_nil ?_
          refine T_tn ?_
          refine W_ift rfl ?_
          refine wp_skip ?_
          refine T_tn ?_
          refine wp_seq ?_
          refine wp_block ?_
          refine wp_seq ?_
          refine W_draw mixed (by kernel_rfl) ?_
          refine Q_v (fun w hw => R_move rfl) ?_
          refine Q_v (fun w hw => R_indexAddrA Try.runUnderlying92 Try.sizeOf3 rfl rfl (by decide) (by decide)) ?_
          refine Q_v (fun w hw => R_load Try.isAgg3 (hB3.ext hw) rfl rfl) ?_
          refine Q_v (fun w hw => R_move rfl) ?_
          refine Q_v (fun w hw => R_indexAddrA Try.runUnderlying92 Try.sizeOf3 rfl rfl (by decide) (by decide)) ?_
          refine Q_v (fun w hw => R_load Try.isAgg3 (hB4.ext hw) rfl rfl) ?_
          refine Q_v (fun w hw => R_neqI rfl rfl) ?_
          refine Q_nil (fun w14 e18 => ?_)
          replace hE := hE.trans e18
          replace hB1 := hB1.ext e18
          replace hB2 := hB2.ext e18
          replace hB3 := hB3.ext e18
          replace hB4 := hB4.ext e18
          refine T_tn ?_
          refine W_if rfl (fun c19 => ?_) (fun c19 => ?_)
          ·
            refine wp_seq ?_
            refine W_draw mixed (by kernel_rfl) ?_
            refine Q_v (fun w hw => R_move rfl) ?_
            refine Q_v (fun w hw => R_indexAddrA Try.runUnderlying92 Try.sizeOf3 rfl rfl (by decide) (by decide)) ?_
            refine Q_v (fun w hw => R_load Try.isAgg3 (hB3.ext hw) rfl rfl) ?_
            refine Q_v (fun w hw => R_move rfl) ?_
            refine Q_v (fun w hw => R_indexAddrA Try.runUnderlying92 Try.sizeOf3 rfl rfl (by decide) (by decide)) ?_
            refine Q_v (fun w hw => R_load Try.isAgg3 (hB4.ext hw) rfl rfl) ?_
            refine Q_v (fun w hw => R_lssI rfl rfl) ?_
            refine Q_v (fun w hw => R_assign rfl) ?_
            refine Q_nil (fun w15 e20 => ?_)
            replace hE := hE.trans e20
            replace hB1 := hB1.ext e20
            replace hB2 := hB2.ext e20
            replace hB3 := hB3.ext e20
            replace hB4 := hB4.ext e20
            refine T_tn ?_
            refine wp_ret ?_
            refine T_br ?_
            refine T_tr ?_
            refine T_tr ?_
            refine T_br ?_
            refine T_tr ?_
            refine ret1 (v := .bool _) rfl rfl ⟨congrArg (fun b => Ending.returned (Value.bool b)) ?_, hE⟩
            (clear hE hB1 hB2; (try clear hB3 hB4); unfold lessV; simp_all [hless])
          ·
            refine wp_skip ?_
            refine T_bn ?_
            refine T_tn ?_
            refine W_region ?_
            refine L (D_v (R_move rfl) ?_)
            refine L (D_v (R_cast (v' := .int .i64 (4)) (R_addI rfl rfl) rfl) ?_)
            refine L (D_v (R_assign rfl) ?_)
            refine S_nil ?_
            refine T_tn ?_
            refine W_round ?_
            refine wp_seq ?_
            refine wp_seq ?_
            refine W_region ?_
            refine L (D_v (R_move rfl) ?_)
            refine L (D_v (R_cast (v' := .bool true) (R_lssI rfl rfl) rfl) ?_)
            refine S_nil ?_
            refine T_tn ?_
            refine W_ift rfl ?_
            refine wp_skip ?_
            refine T_tn ?_
            refine wp_seq ?_
            refine wp_block ?_
            refine wp_seq ?_
            refine W_draw mixed (by kernel_rfl) ?_
            refine Q_v (fun w hw => R_move rfl) ?_
            refine Q_v (fun w hw => R_indexAddrA Try.runUnderlying92 Try.sizeOf3 rfl rfl (by decide) (by decide)) ?_
            refine Q_v (fun w hw => R_load Try.isAgg3 (hB3.ext hw) rfl rfl) ?_
            refine Q_v (fun w hw => R_move rfl) ?_
            refine Q_v (fun w hw => R_indexAddrA Try.runUnderlying92 Try.sizeOf3 rfl rfl (by decide) (by decide)) ?_
            refine Q_v (fun w hw => R_load Try.isAgg3 (hB4.ext hw) rfl rfl) ?_
            refine Q_v (fun w hw => R_neqI rfl rfl) ?_
            refine Q_nil (fun w16 e21 => ?_)
            replace hE := hE.trans e21
            replace hB1 := hB1.ext e21
            replace hB2 := hB2.ext e21
            replace hB3 := hB3.ext e21
            replace hB4 := hB4.ext e21
            refine T_tn ?_
            refine W_if rfl (fun c22 => ?_) (fun c22 => ?_)
            ·
              refine wp_seq ?_
              refine W_draw mixed (by kernel_rfl) ?_
              refine Q_v (fun w hw => R_move rfl) ?_
              refine Q_v (fun w hw => R_indexAddrA Try.runUnderlying92 Try.sizeOf3 rfl rfl (by decide) (by decide)) ?_
              refine Q_v (fun w hw => R_load Try.isAgg3 (hB3.ext hw) rfl rfl) ?_
              refine Q_v (fun w hw => R_move rfl) ?_
              refine Q_v (fun w hw => R_indexAddrA Try.runUnderlying92 Try.sizeOf3 rfl rfl (by decide) (by decide)) ?_
              refine Q_v (fun w hw => R_load Try.isAgg3 (hB4.ext hw) rfl rfl) ?_
              refine Q_v (fun w hw => R_lssI rfl rfl) ?_
              refine Q_v (fun w hw => R_assign rfl) ?_
              refine Q_nil (fun w17 e23 => ?_)
              replace hE := hE.trans e23
              replace hB1 := hB1.ext e23
              replace hB2 := hB2.ext e23
              replace hB3 := hB3.ext e23
              replace hB4 := hB4.ext e23
              refine T_tn ?_
              refine wp_ret ?_
              refine T_br ?_
              refine T_tr ?_
              refine T_tr ?_
              refine T_br ?_
              refine T_tr ?_
              refine ret1 (v := .bool _) rfl rfl ⟨congrArg (fun b => Ending.returned (Value.bool b)) ?_, hE⟩
              (clear hE hB1 hB2; (try clear hB3 hB4); unfold lessV; simp_all [hless])
            ·
              refine wp_skip ?_
              refine T_bn ?_
              refine T_tn ?_
              refine W_region ?_
              refine L (D_v (R_move rfl) ?_)
              refine L (D_v (R_cast (v' := .int .i64 (5)) (R_addI rfl rfl) rfl) ?_)
              refine L (D_v (R_assign rfl) ?_)
              refine S_nil ?_
              refine T_tn ?_
              refine W_round ?_
              refine wp_seq ?_
              refine wp_seq ?_
              refine W_region ?_
              refine L (D_v (R_move rfl) ?_)
              refine L (D_v (R_cast (v' := .bool false) (R_lssI rfl rfl) rfl) ?_)
              refine S_nil ?_
              refine T_tn ?_
              refine W_iff rfl ?_
              refine wp_exit ?_
              refine T_te ?_
              refine T_te ?_
              refine T_be ?_
              refine T_tn ?_
              refine wp_seq ?_
              refine wp_seq ?_
              refine W_region ?_
              refine L (D_v (R_fieldAddr Try.runUnderlying26 rfl Try.sizeOf24 rfl) ?_)
              refine L (D_v (R_loadA (c := (a.value).l) Try.isAgg24 Try.sizeOf24 hB1 rfl rfl rfl) ?_)
              refine L (D_v (R_fieldAddr Try.runUnderlying26 rfl Try.sizeOf24 rfl) ?_)
              refine L (D_v (R_loadA (c := (b.value).l) Try.isAgg24 Try.sizeOf24 hB2 rfl rfl rfl) ?_)
              refine L (D_v (R_neqA Try.eqGuardType24 (eq24 (a.value) (b.value) _) rfl rfl) ?_)
              refine S_nil ?_
              refine T_tn ?_
              refine W_if rfl (fun c24 => ?_) (fun c24 => ?_)
              ·
                refine wp_seq ?_
                refine W_region ?_
                refine L (D_v (R_fieldAddr Try.runUnderlying26 rfl Try.sizeOf24 rfl) ?_)
                refine L (D_v (R_loadA (c := (a.value).l) Try.isAgg24 Try.sizeOf24 hB1 rfl rfl rfl) ?_)
                refine L (D_v (R_fieldAddr Try.runUnderlying26 rfl Try.sizeOf24 rfl) ?_)
                refine L (D_v (R_loadA (c := (b.value).l) Try.isAgg24 Try.sizeOf24 hB2 rfl rfl rfl) ?_)
                refine L (D_call (R_callF Try.call85 rfl rfl) (c85 (a.value) (b.value) _ ) (fun w18 e25 => ?_))
                replace hE := hE.trans e25
                replace hB1 := hB1.ext e25
                replace hB2 := hB2.ext e25
                replace hB3 := hB3.ext e25
                replace hB4 := hB4.ext e25
                refine L (D_v (R_assign rfl) ?_)
                refine S_nil ?_
                refine T_tn ?_
                refine wp_ret ?_
                refine T_tr ?_
                refine ret1 (v := .bool _) rfl rfl ⟨congrArg (fun b => Ending.returned (Value.bool b)) ?_, hE⟩
                (clear hE hB1 hB2; (try clear hB3 hB4); unfold lessV; simp_all [hless])
              ·
                refine wp_skip ?_
                refine T_tn ?_
                refine wp_seq ?_
                refine W_region ?_
                refine L (D_v (R_fieldAddr Try.runUnderlying26 rfl Try.sizeOf22 rfl) ?_)
                refine L (D_v (R_load Try.isAgg22 hB1 rfl rfl) ?_)
                refine L (D_v (R_fieldAddr Try.runUnderlying26 rfl Try.sizeOf22 rfl) ?_)
                refine L (D_v (R_load Try.isAgg22 hB2 rfl rfl) ?_)
                refine L (D_v (R_lssI rfl rfl) ?_)
                refine L (D_v (R_assign rfl) ?_)
                refine S_nil ?_
                refine T_tn ?_
                refine wp_ret ?_
                refine ret1 (v := .bool _) rfl rfl ⟨congrArg (fun b => Ending.returned (Value.bool b)) ?_, hE⟩
                (clear hE hB1 hB2; (try clear hB3 hB4); unfold lessV; simp_all [hless])

-- forkledger/forkledgerlaw7.awake
set_option maxRecDepth 4000 in
set_option maxHeartbeats 1000000 in
theorem c28  (w : World) : Calls Try.prog 28 [].toArray w (Ret w (.bool true)) := by
  refine enter Try.func28 Try.ntmps28 rfl rfl ?_
  have hE := Ext.refl w
  refine wp_seq ?_
  refine W_region ?_
  refine L (D_v (R_assign rfl) ?_)
  refine S_nil ?_
  refine T_tn ?_
  refine wp_seq ?_
  refine W_region ?_
  refine L (D_v (R_buildS (vs := [(0, i64 (4)), (2, i64 (1)), (3, i64 (0)), (4, i64 (2))]) (c := ((⟨4, 0, 1, 0, 2, 0, Nm.zero, Nm.zero⟩ : Vt)).l) Try.runUnderlying26 places26 Try.zeroValue26 rfl rfl) ?_)
  refine L (D_alloc (c := (Vt.zero).l) Try.zeroValue26 rfl (fun aB1 w1 e1 gB1 hB1 => ?_))
  have lB1 := Nat.le_trans hE.size gB1
  replace hE := hE.trans e1
  refine L (D_storeA Try.sizeOf26 hB1 rfl rfl rfl rfl rfl (l' := ((⟨4, 0, 1, 0, 2, 0, Nm.zero, Nm.zero⟩ : Vt)).l) rfl (fun w2 k2 hB1 => ?_))
  replace hE := hE.kp k2 lB1
  refine S_nil ?_
  refine T_tn ?_
  refine wp_seq ?_
  refine W_region ?_
  refine L (D_v (R_loadA (c := ((⟨4, 0, 1, 0, 2, 0, Nm.zero, Nm.zero⟩ : Vt)).l) Try.isAgg26 Try.sizeOf26 hB1 rfl rfl rfl) ?_)
  refine L (D_alloc (c := (Vt.zero).l) Try.zeroValue26 rfl (fun aB2 w3 e3 gB2 hB2 => ?_))
  have lB2 := Nat.le_trans hE.size gB2
  have nB1B2 := hB1.ne gB2
  replace hE := hE.trans e3
  replace hB1 := hB1.ext e3
  refine L (D_storeA Try.sizeOf26 hB2 rfl rfl rfl rfl rfl (l' := ((⟨4, 0, 1, 0, 2, 0, Nm.zero, Nm.zero⟩ : Vt)).l) rfl (fun w4 k4 hB2 => ?_))
  replace hE := hE.kp k4 lB2
  replace hB1 := hB1.kp k4 nB1B2
  refine S_nil ?_
  refine T_tn ?_
  refine wp_seq ?_
  refine W_region ?_
  refine L (D_v (R_fieldAddr Try.runUnderlying26 rfl Try.sizeOf3 rfl) ?_)
  refine L (D_store1 Try.sizeOf3 hB2 rfl rfl rfl rfl (fun w5 k5 (hB2 : Blk w5 aB2 (({(⟨4, 0, 1, 0, 2, 0, Nm.zero, Nm.zero⟩ : Vt) with choice := 2} : Vt)).l 26) => ?_))
  replace hE := hE.kp k5 lB2
  replace hB1 := hB1.kp k5 nB1B2
  refine S_nil ?_
  refine T_tn ?_
  refine wp_seq ?_
  refine W_region ?_
  refine L (D_v (R_loadA (c := (({(⟨4, 0, 1, 0, 2, 0, Nm.zero, Nm.zero⟩ : Vt) with choice := 2} : Vt)).l) Try.isAgg26 Try.sizeOf26 hB2 rfl rfl rfl) ?_)
  refine L (D_alloc (c := (Vt.zero).l) Try.zeroValue26 rfl (fun aB3 w6 e6 gB3 hB3 => ?_))
  have lB3 := Nat.le_trans hE.size gB3
  have nB1B3 := hB1.ne gB3
  have nB2B3 := hB2.ne gB3
  replace hE := hE.trans e6
  replace hB1 := hB1.ext e6
  replace hB2 := hB2.ext e6
  refine L (D_storeA Try.sizeOf26 hB3 rfl rfl rfl rfl rfl (l' := (({(⟨4, 0, 1, 0, 2, 0, Nm.zero, Nm.zero⟩ : Vt) with choice := 2} : Vt)).l) rfl (fun w7 k7 hB3 => ?_))
  replace hE := hE.kp k7 lB3
  replace hB1 := hB1.kp k7 nB1B3
  replace hB2 := hB2.kp k7 nB2B3
  refine S_nil ?_
  refine T_tn ?_
  refine wp_seq ?_
  refine W_region ?_
  refine L (D_v (R_fieldAddr Try.runUnderlying26 rfl Try.sizeOf3 rfl) ?_)
  refine L (D_store1 Try.sizeOf3 hB3 rfl rfl rfl rfl (fun w8 k8 (hB3 : Blk w8 aB3 (({({(⟨4, 0, 1, 0, 2, 0, Nm.zero, Nm.zero⟩ : Vt) with choice := 2} : Vt) with round := 2} : Vt)).l 26) => ?_))
  replace hE := hE.kp k8 lB3
  replace hB1 := hB1.kp k8 nB1B3
  replace hB2 := hB2.kp k8 nB2B3
  refine S_nil ?_
  refine T_tn ?_
  refine wp_seq ?_
  refine W_region ?_
  refine L (D_v (R_loadA (c := ((⟨4, 0, 1, 0, 2, 0, Nm.zero, Nm.zero⟩ : Vt)).l) Try.isAgg26 Try.sizeOf26 hB1 rfl rfl rfl) ?_)
  refine L (D_call (R_callF Try.call26 rfl rfl) (c26 ((⟨4, 0, 1, 0, 2, 0, Nm.zero, Nm.zero⟩ : Vt)) _ ) (fun w9 e9 => ?_))
  replace hE := hE.trans e9
  replace hB1 := hB1.ext e9
  replace hB2 := hB2.ext e9
  replace hB3 := hB3.ext e9
  refine L (D_v (R_move rfl) ?_)
  refine L (D_g1 rfl rfl (fun hb => R_loadA (c := ((⟨4, 0, 1, 0, 2, 0, Nm.zero, Nm.zero⟩ : Vt)).l) Try.isAgg26 Try.sizeOf26 hB1 rfl rfl rfl) ?_)
  refine L (D_g1 rfl rfl (fun hb => R_loadA (c := (({(⟨4, 0, 1, 0, 2, 0, Nm.zero, Nm.zero⟩ : Vt) with choice := 2} : Vt)).l) Try.isAgg26 Try.sizeOf26 hB2 rfl rfl rfl) ?_)
  refine L (D_gc1 rfl rfl (fun hb => R_callF Try.call31 (mapv2 (cgE hb) (cgE hb)) rfl) (fun hb => c31 ((⟨4, 0, 1, 0, 2, 0, Nm.zero, Nm.zero⟩ : Vt)) (({(⟨4, 0, 1, 0, 2, 0, Nm.zero, Nm.zero⟩ : Vt) with choice := 2} : Vt)) _ ) (fun w10 e10 => ?_))
  replace hE := hE.trans e10
  replace hB1 := hB1.ext e10
  replace hB2 := hB2.ext e10
  replace hB3 := hB3.ext e10
  refine L (D_v (R_pickA rfl rfl rfl) ?_)
  refine L (D_v (R_move rfl) ?_)
  refine L (D_g1 rfl rfl (fun hb => R_loadA (c := ((⟨4, 0, 1, 0, 2, 0, Nm.zero, Nm.zero⟩ : Vt)).l) Try.isAgg26 Try.sizeOf26 hB1 rfl rfl rfl) ?_)
  refine L (D_g1 rfl rfl (fun hb => R_loadA (c := ((⟨4, 0, 1, 0, 2, 0, Nm.zero, Nm.zero⟩ : Vt)).l) Try.isAgg26 Try.sizeOf26 hB1 rfl rfl rfl) ?_)
  refine L (D_gc1 rfl rfl (fun hb => R_callF Try.call31 (mapv2 (cgE hb) (cgE hb)) rfl) (fun hb => c31 ((⟨4, 0, 1, 0, 2, 0, Nm.zero, Nm.zero⟩ : Vt)) ((⟨4, 0, 1, 0, 2, 0, Nm.zero, Nm.zero⟩ : Vt)) _ ) (fun w11 e11 => ?_))
  replace hE := hE.trans e11
  replace hB1 := hB1.ext e11
  replace hB2 := hB2.ext e11
  replace hB3 := hB3.ext e11
  refine L (D_g1 rfl rfl (fun hb => R_not (cgE hb)) ?_)
  refine L (D_v (R_pickA rfl rfl rfl) ?_)
  refine L (D_v (R_move rfl) ?_)
  refine L (D_g1 rfl rfl (fun hb => R_loadA (c := ((⟨4, 0, 1, 0, 2, 0, Nm.zero, Nm.zero⟩ : Vt)).l) Try.isAgg26 Try.sizeOf26 hB1 rfl rfl rfl) ?_)
  refine L (D_g1 rfl rfl (fun hb => R_loadA (c := (({({(⟨4, 0, 1, 0, 2, 0, Nm.zero, Nm.zero⟩ : Vt) with choice := 2} : Vt) with round := 2} : Vt)).l) Try.isAgg26 Try.sizeOf26 hB3 rfl rfl rfl) ?_)
  refine L (D_gc1 rfl rfl (fun hb => R_callF Try.call31 (mapv2 (cgE hb) (cgE hb)) rfl) (fun hb => c31 ((⟨4, 0, 1, 0, 2, 0, Nm.zero, Nm.zero⟩ : Vt)) (({({(⟨4, 0, 1, 0, 2, 0, Nm.zero, Nm.zero⟩ : Vt) with choice := 2} : Vt) with round := 2} : Vt)) _ ) (fun w12 e12 => ?_))
  replace hE := hE.trans e12
  replace hB1 := hB1.ext e12
  replace hB2 := hB2.ext e12
  replace hB3 := hB3.ext e12
  refine L (D_g1 rfl rfl (fun hb => R_not (cgE hb)) ?_)
  refine L (D_v (R_pickA rfl rfl rfl) ?_)
  refine L (D_v (R_assign rfl) ?_)
  refine S_nil ?_
  refine T_tn ?_
  refine wp_ret ?_
  refine ret1 (v := .bool _) rfl rfl ⟨congrArg (fun b => Ending.returned (Value.bool b)) ?_, hE⟩
  decide +kernel
end Go.Proofs.Yteeopgpgbdhmhaa
