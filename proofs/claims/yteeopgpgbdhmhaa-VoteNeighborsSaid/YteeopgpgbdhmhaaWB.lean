/- Walks of the laws VoteValid, VoteConflicts, VoteOrder, VoteNeighbors. No condition. Printed by wip/mkA.py. -/
import Derived.Test.YteeopgpgbdhmhaaWA
namespace Go.Proofs.Yteeopgpgbdhmhaa
open Go.RowKit
set_option linter.unusedVariables false
set_option linter.unusedSimpArgs false
attribute [local irreducible] wpList wpQuiet Code.wp Exit.then Exit.inBlock bodyPost Code.rounds Calls valid sameKey conflict lessV hless num between
-- forkledger/forkledgerlaw7.VoteValid
set_option maxRecDepth 4000 in
set_option maxHeartbeats 1000000 in
theorem c3 (a : Vt) (w : World) : Calls Try.prog 3 [a.v].toArray w (Ret w (.bool true)) := by
  refine enter Try.func3 Try.ntmps3 rfl rfl ?_
  have hE := Ext.refl w
  refine wp_seq ?_
  refine W_region ?_
  refine S_box (c := (a).l) (rfl) (fun aB1 w1 e1 gB1 hB1 => ?_)
  replace hE := hE.trans e1
  refine S_v (R_assign rfl) ?_
  refine S_nil ?_
  refine T_tn ?_
  refine wp_seq ?_
  refine W_draw mixed (by kernel_rfl) ?_
  refine Q_v (fun w hw => R_loadA (c := (a).l) Try.isAgg26 Try.sizeOf26 (hB1.ext hw) rfl rfl rfl) ?_
  refine Q_call (fun w hw => R_callF Try.call26 rfl rfl) (fun w hw => c26 (a) _) ?_
  refine Q_v (fun w hw => R_loadA (c := (a).l) Try.isAgg26 Try.sizeOf26 (hB1.ext hw) rfl rfl rfl) ?_
  refine Q_call (fun w hw => R_callF Try.call27 rfl rfl) (fun w hw => c27 (a) _) ?_
  refine Q_v (fun w hw => R_eqlB Try.underlying4 rfl rfl) ?_
  refine Q_v (fun w hw => R_move rfl) ?_
  refine Q_gc1 rfl rfl (fun hb w hw => R_callF Try.call28 rfl rfl) (fun hb w hw => c28  _) ?_
  refine Q_v (fun w hw => R_pickA rfl rfl rfl) ?_
  refine Q_v (fun w hw => R_assign rfl) ?_
  refine Q_nil (fun w2 e2 => ?_)
  replace hE := hE.trans e2
  replace hB1 := hB1.ext e2
  refine T_tn ?_
  refine wp_ret ?_
  refine ret1 (v := .bool _) rfl rfl ⟨congrArg (fun b => Ending.returned (Value.bool b)) ?_, hE⟩
  simp

-- forkledger/forkledgerlaw7.VoteConflicts
set_option maxRecDepth 4000 in
set_option maxHeartbeats 1000000 in
theorem c4 (a b : Vt) (w : World) : Calls Try.prog 4 [a.v, b.v].toArray w (Ret w (.bool true)) := by
  refine enter Try.func4 Try.ntmps4 rfl rfl ?_
  have hE := Ext.refl w
  refine wp_seq ?_
  refine W_region ?_
  refine S_box (c := (a).l) (rfl) (fun aB1 w1 e1 gB1 hB1 => ?_)
  replace hE := hE.trans e1
  refine S_box (c := (b).l) (rfl) (fun aB2 w2 e2 gB2 hB2 => ?_)
  replace hE := hE.trans e2
  replace hB1 := hB1.ext e2
  refine S_v (R_assign rfl) ?_
  refine S_nil ?_
  refine T_tn ?_
  refine wp_seq ?_
  refine wp_seq ?_
  refine W_draw mixed (by kernel_rfl) ?_
  refine Q_v (fun w hw => R_loadA (c := (a).l) Try.isAgg26 Try.sizeOf26 (hB1.ext hw) rfl rfl rfl) ?_
  refine Q_v (fun w hw => R_loadA (c := (b).l) Try.isAgg26 Try.sizeOf26 (hB2.ext hw) rfl rfl rfl) ?_
  refine Q_call (fun w hw => R_callF Try.call29 rfl rfl) (fun w hw => c29 (a) (b) _) ?_
  refine Q_v (fun w hw => R_loadA (c := (a).l) Try.isAgg26 Try.sizeOf26 (hB1.ext hw) rfl rfl rfl) ?_
  refine Q_v (fun w hw => R_loadA (c := (b).l) Try.isAgg26 Try.sizeOf26 (hB2.ext hw) rfl rfl rfl) ?_
  refine Q_call (fun w hw => R_callF Try.call30 rfl rfl) (fun w hw => c30 (a) (b) _) ?_
  refine Q_v (fun w hw => R_neqB Try.underlying4 rfl rfl) ?_
  refine Q_v (fun w hw => R_move rfl) ?_
  refine Q_g1 rfl rfl (fun hb w hw => R_loadA (c := (a).l) Try.isAgg26 Try.sizeOf26 (hB1.ext hw) rfl rfl rfl) ?_
  refine Q_g1 rfl rfl (fun hb w hw => R_loadA (c := (b).l) Try.isAgg26 Try.sizeOf26 (hB2.ext hw) rfl rfl rfl) ?_
  refine Q_gc1 rfl rfl (fun hb w hw => R_callF Try.call31 (mapv2 (cgE hb) (cgE hb)) rfl) (fun hb w hw => c31 (a) (b) _) ?_
  refine Q_g1 rfl rfl (fun hb w hw => R_loadA (c := (a).l) Try.isAgg26 Try.sizeOf26 (hB1.ext hw) rfl rfl rfl) ?_
  refine Q_g1 rfl rfl (fun hb w hw => R_loadA (c := (b).l) Try.isAgg26 Try.sizeOf26 (hB2.ext hw) rfl rfl rfl) ?_
  refine Q_gc1 rfl rfl (fun hb w hw => R_callF Try.call32 (mapv2 (cgE hb) (cgE hb)) rfl) (fun hb w hw => c32 (a) (b) _) ?_
  refine Q_g1 rfl rfl (fun hb w hw => R_neqB Try.underlying4 (cgE hb) (cgE hb)) ?_
  refine Q_v (fun w hw => R_pickO rfl rfl rfl) ?_
  refine Q_nil (fun w3 e3 => ?_)
  replace hE := hE.trans e3
  replace hB1 := hB1.ext e3
  replace hB2 := hB2.ext e3
  refine T_tn ?_
  refine W_if rfl (fun c4 => ?_) (fun c4 => ?_)
  ·
    refine wp_seq ?_
    refine W_region ?_
    refine S_v (R_assign rfl) ?_
    refine S_nil ?_
    refine T_tn ?_
    refine wp_ret ?_
    refine T_tr ?_
    refine ret1 (v := .bool _) rfl rfl ⟨congrArg (fun b => Ending.returned (Value.bool b)) ?_, hE⟩
    first | (simp at c4; done) | (rw [conflict_law] at c6; simp at c6; done) | simp [sameKey_refl]
  ·
    refine wp_skip ?_
    refine T_tn ?_
    refine wp_seq ?_
    refine wp_seq ?_
    refine W_draw mixed (by kernel_rfl) ?_
    refine Q_v (fun w hw => R_loadA (c := (a).l) Try.isAgg26 Try.sizeOf26 (hB1.ext hw) rfl rfl rfl) ?_
    refine Q_v (fun w hw => R_loadA (c := (b).l) Try.isAgg26 Try.sizeOf26 (hB2.ext hw) rfl rfl rfl) ?_
    refine Q_call (fun w hw => R_callF Try.call31 rfl rfl) (fun w hw => c31 (a) (b) _) ?_
    refine Q_v (fun w hw => R_loadA (c := (b).l) Try.isAgg26 Try.sizeOf26 (hB2.ext hw) rfl rfl rfl) ?_
    refine Q_v (fun w hw => R_loadA (c := (a).l) Try.isAgg26 Try.sizeOf26 (hB1.ext hw) rfl rfl rfl) ?_
    refine Q_call (fun w hw => R_callF Try.call31 rfl rfl) (fun w hw => c31 (b) (a) _) ?_
    refine Q_v (fun w hw => R_neqB Try.underlying4 rfl rfl) ?_
    refine Q_v (fun w hw => R_move rfl) ?_
    refine Q_g1 rfl rfl (fun hb w hw => R_loadA (c := (a).l) Try.isAgg26 Try.sizeOf26 (hB1.ext hw) rfl rfl rfl) ?_
    refine Q_g1 rfl rfl (fun hb w hw => R_loadA (c := (a).l) Try.isAgg26 Try.sizeOf26 (hB1.ext hw) rfl rfl rfl) ?_
    refine Q_gc1 rfl rfl (fun hb w hw => R_callF Try.call31 (mapv2 (cgE hb) (cgE hb)) rfl) (fun hb w hw => c31 (a) (a) _) ?_
    refine Q_v (fun w hw => R_pickO rfl rfl rfl) ?_
    refine Q_v (fun w hw => R_move rfl) ?_
    refine Q_g1 rfl rfl (fun hb w hw => R_loadA (c := (a).l) Try.isAgg26 Try.sizeOf26 (hB1.ext hw) rfl rfl rfl) ?_
    refine Q_g1 rfl rfl (fun hb w hw => R_loadA (c := (b).l) Try.isAgg26 Try.sizeOf26 (hB2.ext hw) rfl rfl rfl) ?_
    refine Q_gc1 rfl rfl (fun hb w hw => R_callF Try.call31 (mapv2 (cgE hb) (cgE hb)) rfl) (fun hb w hw => c31 (a) (b) _) ?_
    refine Q_g1 rfl rfl (fun hb w hw => R_move (cgE hb)) ?_
    refine Q_g2 rfl rfl (fun hg hb w hw => R_fieldAddr Try.runUnderlying26 rfl Try.sizeOf3 rfl) ?_
    refine Q_g2 rfl rfl (fun hg hb w hw => R_load Try.isAgg3 (hB1.ext hw) (cgA hg hb) rfl) ?_
    refine Q_g2 rfl rfl (fun hg hb w hw => R_fieldAddr Try.runUnderlying26 rfl Try.sizeOf3 rfl) ?_
    refine Q_g2 rfl rfl (fun hg hb w hw => R_load Try.isAgg3 (hB2.ext hw) (cgA hg hb) rfl) ?_
    refine Q_g2 rfl rfl (fun hg hb w hw => R_neqI (cgA hg hb) (cgA hg hb)) ?_
    refine Q_g2 rfl rfl (fun hg hb w hw => R_move (cgA hg hb)) ?_
    refine Q_g2 rfl rfl (fun hg hb w hw => R_loadA (c := (a).l) Try.isAgg26 Try.sizeOf26 (hB1.ext hw) rfl rfl rfl) ?_
    refine Q_g2 rfl rfl (fun hg hb w hw => R_loadA (c := (b).l) Try.isAgg26 Try.sizeOf26 (hB2.ext hw) rfl rfl rfl) ?_
    refine Q_g2 rfl rfl (fun hg hb w hw => R_eqlA Try.eqGuardType26 (eq26 (a) (b) _) (cgA hg hb) (cgA hg hb)) ?_
    refine Q_g2 rfl rfl (fun hg hb w hw => R_pickO (cgA hg hb) rfl (cgD2 hg hb)) ?_
    refine Q_g1 rfl rfl (fun hb w hw => R_pickA (cgE hb) (cgD hb) rfl) ?_
    refine Q_v (fun w hw => R_pickO rfl rfl rfl) ?_
    refine Q_nil (fun w4 e5 => ?_)
    replace hE := hE.trans e5
    replace hB1 := hB1.ext e5
    replace hB2 := hB2.ext e5
    refine T_tn ?_
    refine W_if rfl (fun c6 => ?_) (fun c6 => ?_)
    ·
      refine wp_seq ?_
      refine W_region ?_
      refine S_v (R_assign rfl) ?_
      refine S_nil ?_
      refine T_tn ?_
      refine wp_ret ?_
      refine T_tr ?_
      refine ret1 (v := .bool _) rfl rfl ⟨congrArg (fun b => Ending.returned (Value.bool b)) ?_, hE⟩
      first | (simp at c4; done) | (rw [conflict_law] at c6; simp at c6; done) | simp [sameKey_refl]
    ·
      refine wp_skip ?_
      refine T_tn ?_
      refine wp_seq ?_
      refine W_region ?_
      refine S_v (R_loadA (c := (a).l) Try.isAgg26 Try.sizeOf26 hB1 rfl rfl rfl) ?_
      refine S_v (R_loadA (c := (a).l) Try.isAgg26 Try.sizeOf26 hB1 rfl rfl rfl) ?_
      refine S_call (R_callF Try.call29 rfl rfl) (c29 (a) (a) _) (fun w5 e7 => ?_)
      replace hE := hE.trans e7
      replace hB1 := hB1.ext e7
      replace hB2 := hB2.ext e7
      refine S_v (R_move rfl) ?_
      refine S_gc1 rfl rfl (fun hb => R_callF Try.call28 rfl rfl) (fun hb => c28  _) (fun w6 e8 => ?_)
      replace hE := hE.trans e8
      replace hB1 := hB1.ext e8
      replace hB2 := hB2.ext e8
      refine S_v (R_pickA rfl rfl rfl) ?_
      refine S_v (R_assign rfl) ?_
      refine S_nil ?_
      refine T_tn ?_
      refine wp_ret ?_
      refine ret1 (v := .bool _) rfl rfl ⟨congrArg (fun b => Ending.returned (Value.bool b)) ?_, hE⟩
      first | (simp at c4; done) | (rw [conflict_law] at c6; simp at c6; done) | simp [sameKey_refl]

-- forkledger/forkledgerlaw7.VoteOrder
set_option maxRecDepth 4000 in
set_option maxHeartbeats 1000000 in
theorem c5 (a b c : Vt) (w : World) : Calls Try.prog 5 [a.v, b.v, c.v].toArray w (Ret w (.bool true)) := by
  refine enter Try.func5 Try.ntmps5 rfl rfl ?_
  have hE := Ext.refl w
  refine wp_seq ?_
  refine W_region ?_
  refine S_box (c := (a).l) (rfl) (fun aB1 w1 e1 gB1 hB1 => ?_)
  replace hE := hE.trans e1
  refine S_box (c := (b).l) (rfl) (fun aB2 w2 e2 gB2 hB2 => ?_)
  replace hE := hE.trans e2
  replace hB1 := hB1.ext e2
  refine S_box (c := (c).l) (rfl) (fun aB3 w3 e3 gB3 hB3 => ?_)
  replace hE := hE.trans e3
  replace hB1 := hB1.ext e3
  replace hB2 := hB2.ext e3
  refine S_v (R_assign rfl) ?_
  refine S_nil ?_
  refine T_tn ?_
  refine wp_seq ?_
  refine wp_seq ?_
  refine W_draw mixed (by kernel_rfl) ?_
  refine Q_v (fun w hw => R_loadA (c := (a).l) Try.isAgg26 Try.sizeOf26 (hB1.ext hw) rfl rfl rfl) ?_
  refine Q_v (fun w hw => R_loadA (c := (b).l) Try.isAgg26 Try.sizeOf26 (hB2.ext hw) rfl rfl rfl) ?_
  refine Q_call (fun w hw => R_callF Try.call33 rfl rfl) (fun w hw => c33 (a) (b) _) ?_
  refine Q_v (fun w hw => R_loadA (c := (a).l) Try.isAgg26 Try.sizeOf26 (hB1.ext hw) rfl rfl rfl) ?_
  refine Q_v (fun w hw => R_loadA (c := (b).l) Try.isAgg26 Try.sizeOf26 (hB2.ext hw) rfl rfl rfl) ?_
  refine Q_call (fun w hw => R_callF Try.call34 rfl rfl) (fun w hw => c34 (a) (b) _) ?_
  refine Q_v (fun w hw => R_neqB Try.underlying4 rfl rfl) ?_
  refine Q_v (fun w hw => R_move rfl) ?_
  refine Q_g1 rfl rfl (fun hb w hw => R_loadA (c := (a).l) Try.isAgg26 Try.sizeOf26 (hB1.ext hw) rfl rfl rfl) ?_
  refine Q_g1 rfl rfl (fun hb w hw => R_loadA (c := (a).l) Try.isAgg26 Try.sizeOf26 (hB1.ext hw) rfl rfl rfl) ?_
  refine Q_gc1 rfl rfl (fun hb w hw => R_callF Try.call33 (mapv2 (cgE hb) (cgE hb)) rfl) (fun hb w hw => c33 (a) (a) _) ?_
  refine Q_v (fun w hw => R_pickO rfl rfl rfl) ?_
  refine Q_nil (fun w4 e4 => ?_)
  replace hE := hE.trans e4
  replace hB1 := hB1.ext e4
  replace hB2 := hB2.ext e4
  replace hB3 := hB3.ext e4
  refine T_tn ?_
  refine W_if rfl (fun c5 => ?_) (fun c5 => ?_)
  ·
    refine wp_seq ?_
    refine W_region ?_
    refine S_v (R_assign rfl) ?_
    refine S_nil ?_
    refine T_tn ?_
    refine wp_ret ?_
    refine T_tr ?_
    refine ret1 (v := .bool _) rfl rfl ⟨congrArg (fun b => Ending.returned (Value.bool b)) ?_, hE⟩
    first | (simp [less_irr] at c5; done) | (rw [order_law] at c10; simp at c10; done) | exact trans_law _ _ _
  ·
    refine wp_skip ?_
    refine T_tn ?_
    refine wp_seq ?_
    refine wp_seq ?_
    refine W_region ?_
    refine S_v (R_loadA (c := (a).l) Try.isAgg26 Try.sizeOf26 hB1 rfl rfl rfl) ?_
    refine S_v (R_loadA (c := (b).l) Try.isAgg26 Try.sizeOf26 hB2 rfl rfl rfl) ?_
    refine S_call (R_callF Try.call33 rfl rfl) (c33 (a) (b) _) (fun w5 e6 => ?_)
    replace hE := hE.trans e6
    replace hB1 := hB1.ext e6
    replace hB2 := hB2.ext e6
    replace hB3 := hB3.ext e6
    refine S_v (R_move rfl) ?_
    refine S_g1 rfl rfl (fun hb => R_loadA (c := (b).l) Try.isAgg26 Try.sizeOf26 hB2 rfl rfl rfl) ?_
    refine S_g1 rfl rfl (fun hb => R_loadA (c := (a).l) Try.isAgg26 Try.sizeOf26 hB1 rfl rfl rfl) ?_
    refine S_gc1 rfl rfl (fun hb => R_callF Try.call33 (mapv2 (cgE hb) (cgE hb)) rfl) (fun hb => c33 (b) (a) _) (fun w6 e7 => ?_)
    replace hE := hE.trans e7
    replace hB1 := hB1.ext e7
    replace hB2 := hB2.ext e7
    replace hB3 := hB3.ext e7
    refine S_v (R_pickA rfl rfl rfl) ?_
    refine S_v (R_move rfl) ?_
    refine S_g1 rfl rfl (fun hb => R_loadA (c := (a).l) Try.isAgg26 Try.sizeOf26 hB1 rfl rfl rfl) ?_
    refine S_g1 rfl rfl (fun hb => R_loadA (c := (b).l) Try.isAgg26 Try.sizeOf26 hB2 rfl rfl rfl) ?_
    refine S_g1 rfl rfl (fun hb => R_neqA Try.eqGuardType26 (eq26 (a) (b) _) (cgE hb) (cgE hb)) ?_
    refine S_g1 rfl rfl (fun hb => R_move (cgE hb)) ?_
    refine S_g2 rfl rfl (fun hg hb => R_loadA (c := (a).l) Try.isAgg26 Try.sizeOf26 hB1 rfl rfl rfl) ?_
    refine S_g2 rfl rfl (fun hg hb => R_loadA (c := (b).l) Try.isAgg26 Try.sizeOf26 hB2 rfl rfl rfl) ?_
    refine S_gc2 rfl rfl (fun hg hb => R_callF Try.call33 (mapv2 (cgA hg hb) (cgA hg hb)) rfl) (fun hg hb => c33 (a) (b) _) (fun w7 e8 => ?_)
    replace hE := hE.trans e8
    replace hB1 := hB1.ext e8
    replace hB2 := hB2.ext e8
    replace hB3 := hB3.ext e8
    refine S_g2 rfl rfl (fun hg hb => R_not (cgA hg hb)) ?_
    refine S_g1 rfl rfl (fun hb => R_pickA (cgE hb) (cgD hb) rfl) ?_
    refine S_g1 rfl rfl (fun hb => R_move (cgE hb)) ?_
    refine S_g2 rfl rfl (fun hg hb => R_loadA (c := (b).l) Try.isAgg26 Try.sizeOf26 hB2 rfl rfl rfl) ?_
    refine S_g2 rfl rfl (fun hg hb => R_loadA (c := (a).l) Try.isAgg26 Try.sizeOf26 hB1 rfl rfl rfl) ?_
    refine S_gc2 rfl rfl (fun hg hb => R_callF Try.call33 (mapv2 (cgA hg hb) (cgA hg hb)) rfl) (fun hg hb => c33 (b) (a) _) (fun w8 e9 => ?_)
    replace hE := hE.trans e9
    replace hB1 := hB1.ext e9
    replace hB2 := hB2.ext e9
    replace hB3 := hB3.ext e9
    refine S_g2 rfl rfl (fun hg hb => R_not (cgA hg hb)) ?_
    refine S_g1 rfl rfl (fun hb => R_pickA (cgE hb) (cgD hb) rfl) ?_
    refine S_v (R_pickO rfl rfl rfl) ?_
    refine S_nil ?_
    refine T_tn ?_
    refine W_if rfl (fun c10 => ?_) (fun c10 => ?_)
    ·
      refine wp_seq ?_
      refine W_region ?_
      refine S_v (R_assign rfl) ?_
      refine S_nil ?_
      refine T_tn ?_
      refine wp_ret ?_
      refine T_tr ?_
      refine ret1 (v := .bool _) rfl rfl ⟨congrArg (fun b => Ending.returned (Value.bool b)) ?_, hE⟩
      first | (simp [less_irr] at c5; done) | (rw [order_law] at c10; simp at c10; done) | exact trans_law _ _ _
    ·
      refine wp_skip ?_
      refine T_tn ?_
      refine wp_seq ?_
      refine W_region ?_
      refine S_v (R_loadA (c := (a).l) Try.isAgg26 Try.sizeOf26 hB1 rfl rfl rfl) ?_
      refine S_v (R_loadA (c := (b).l) Try.isAgg26 Try.sizeOf26 hB2 rfl rfl rfl) ?_
      refine S_call (R_callF Try.call33 rfl rfl) (c33 (a) (b) _) (fun w9 e11 => ?_)
      replace hE := hE.trans e11
      replace hB1 := hB1.ext e11
      replace hB2 := hB2.ext e11
      replace hB3 := hB3.ext e11
      refine S_v (R_not rfl) ?_
      refine S_v (R_move rfl) ?_
      refine S_g1 rfl rfl (fun hb => R_loadA (c := (b).l) Try.isAgg26 Try.sizeOf26 hB2 rfl rfl rfl) ?_
      refine S_g1 rfl rfl (fun hb => R_loadA (c := (c).l) Try.isAgg26 Try.sizeOf26 hB3 rfl rfl rfl) ?_
      refine S_gc1 rfl rfl (fun hb => R_callF Try.call33 (mapv2 (cgE hb) (cgE hb)) rfl) (fun hb => c33 (b) (c) _) (fun w10 e12 => ?_)
      replace hE := hE.trans e12
      replace hB1 := hB1.ext e12
      replace hB2 := hB2.ext e12
      replace hB3 := hB3.ext e12
      refine S_g1 rfl rfl (fun hb => R_not (cgE hb)) ?_
      refine S_v (R_pickO rfl rfl rfl) ?_
      refine S_v (R_move rfl) ?_
      refine S_g1 rfl rfl (fun hb => R_loadA (c := (a).l) Try.isAgg26 Try.sizeOf26 hB1 rfl rfl rfl) ?_
      refine S_g1 rfl rfl (fun hb => R_loadA (c := (c).l) Try.isAgg26 Try.sizeOf26 hB3 rfl rfl rfl) ?_
      refine S_gc1 rfl rfl (fun hb => R_callF Try.call33 (mapv2 (cgE hb) (cgE hb)) rfl) (fun hb => c33 (a) (c) _) (fun w11 e13 => ?_)
      replace hE := hE.trans e13
      replace hB1 := hB1.ext e13
      replace hB2 := hB2.ext e13
      replace hB3 := hB3.ext e13
      refine S_v (R_pickO rfl rfl rfl) ?_
      refine S_v (R_move rfl) ?_
      refine S_gc1 rfl rfl (fun hb => R_callF Try.call28 rfl rfl) (fun hb => c28  _) (fun w12 e14 => ?_)
      replace hE := hE.trans e14
      replace hB1 := hB1.ext e14
      replace hB2 := hB2.ext e14
      replace hB3 := hB3.ext e14
      refine S_v (R_pickA rfl rfl rfl) ?_
      refine S_v (R_assign rfl) ?_
      refine S_nil ?_
      refine T_tn ?_
      refine wp_ret ?_
      refine ret1 (v := .bool _) rfl rfl ⟨congrArg (fun b => Ending.returned (Value.bool b)) ?_, hE⟩
      first | (simp [less_irr] at c5; done) | (rw [order_law] at c10; simp at c10; done) | exact trans_law _ _ _

-- forkledger/forkledgerlaw7.VoteNeighbors
set_option maxRecDepth 4000 in
set_option maxHeartbeats 1000000 in
theorem c6 (a b c : Vt) (w : World) : Calls Try.prog 6 [a.v, b.v, c.v].toArray w (Ret w (.bool true)) := by
  refine enter Try.func6 Try.ntmps6 rfl rfl ?_
  have hE := Ext.refl w
  refine wp_seq ?_
  refine W_region ?_
  refine S_box (c := (a).l) (rfl) (fun aB1 w1 e1 gB1 hB1 => ?_)
  replace hE := hE.trans e1
  refine S_box (c := (b).l) (rfl) (fun aB2 w2 e2 gB2 hB2 => ?_)
  replace hE := hE.trans e2
  replace hB1 := hB1.ext e2
  refine S_box (c := (c).l) (rfl) (fun aB3 w3 e3 gB3 hB3 => ?_)
  replace hE := hE.trans e3
  replace hB1 := hB1.ext e3
  replace hB2 := hB2.ext e3
  refine S_v (R_assign rfl) ?_
  refine S_nil ?_
  refine T_tn ?_
  refine wp_seq ?_
  refine wp_seq ?_
  refine W_region ?_
  refine S_v (R_loadA (c := (a).l) Try.isAgg26 Try.sizeOf26 hB1 rfl rfl rfl) ?_
  refine S_v (R_loadA (c := (b).l) Try.isAgg26 Try.sizeOf26 hB2 rfl rfl rfl) ?_
  refine S_call (R_callF Try.call33 rfl rfl) (c33 (a) (b) _) (fun w4 e4 => ?_)
  replace hE := hE.trans e4
  replace hB1 := hB1.ext e4
  replace hB2 := hB2.ext e4
  replace hB3 := hB3.ext e4
  refine S_v (R_not rfl) ?_
  refine S_v (R_move rfl) ?_
  refine S_g1 rfl rfl (fun hb => R_loadA (c := (b).l) Try.isAgg26 Try.sizeOf26 hB2 rfl rfl rfl) ?_
  refine S_g1 rfl rfl (fun hb => R_loadA (c := (c).l) Try.isAgg26 Try.sizeOf26 hB3 rfl rfl rfl) ?_
  refine S_gc1 rfl rfl (fun hb => R_callF Try.call33 (mapv2 (cgE hb) (cgE hb)) rfl) (fun hb => c33 (b) (c) _) (fun w5 e5 => ?_)
  replace hE := hE.trans e5
  replace hB1 := hB1.ext e5
  replace hB2 := hB2.ext e5
  replace hB3 := hB3.ext e5
  refine S_g1 rfl rfl (fun hb => R_not (cgE hb)) ?_
  refine S_v (R_pickO rfl rfl rfl) ?_
  refine S_v (R_move rfl) ?_
  refine S_g1 rfl rfl (fun hb => R_loadA (c := (a).l) Try.isAgg26 Try.sizeOf26 hB1 rfl rfl rfl) ?_
  refine S_g1 rfl rfl (fun hb => R_loadA (c := (c).l) Try.isAgg26 Try.sizeOf26 hB3 rfl rfl rfl) ?_
  refine S_gc1 rfl rfl (fun hb => R_callF Try.call29 (mapv2 (cgE hb) (cgE hb)) rfl) (fun hb => c29 (a) (c) _) (fun w6 e6 => ?_)
  replace hE := hE.trans e6
  replace hB1 := hB1.ext e6
  replace hB2 := hB2.ext e6
  replace hB3 := hB3.ext e6
  refine S_g1 rfl rfl (fun hb => R_not (cgE hb)) ?_
  refine S_v (R_pickO rfl rfl rfl) ?_
  refine S_nil ?_
  refine T_tn ?_
  refine W_if rfl (fun c7 => ?_) (fun c7 => ?_)
  ·
    refine wp_seq ?_
    refine W_region ?_
    refine S_call (R_callF Try.call28 rfl rfl) (c28  _) (fun w7 e8 => ?_)
    replace hE := hE.trans e8
    replace hB1 := hB1.ext e8
    replace hB2 := hB2.ext e8
    replace hB3 := hB3.ext e8
    refine S_v (R_assign rfl) ?_
    refine S_nil ?_
    refine T_tn ?_
    refine wp_ret ?_
    refine T_tr ?_
    refine ret1 (v := .bool _) rfl rfl ⟨congrArg (fun b => Ending.returned (Value.bool b)) ?_, hE⟩
    first | rfl | (simp at c7; have := less_mid c7.1.1 c7.1.2 c7.2; simp [this.1, this.2])
  ·
    refine wp_skip ?_
    refine T_tn ?_
    refine wp_seq ?_
    refine W_region ?_
    refine S_v (R_loadA (c := (a).l) Try.isAgg26 Try.sizeOf26 hB1 rfl rfl rfl) ?_
    refine S_v (R_loadA (c := (b).l) Try.isAgg26 Try.sizeOf26 hB2 rfl rfl rfl) ?_
    refine S_call (R_callF Try.call29 rfl rfl) (c29 (a) (b) _) (fun w8 e9 => ?_)
    replace hE := hE.trans e9
    replace hB1 := hB1.ext e9
    replace hB2 := hB2.ext e9
    replace hB3 := hB3.ext e9
    refine S_v (R_move rfl) ?_
    refine S_g1 rfl rfl (fun hb => R_loadA (c := (b).l) Try.isAgg26 Try.sizeOf26 hB2 rfl rfl rfl) ?_
    refine S_g1 rfl rfl (fun hb => R_loadA (c := (c).l) Try.isAgg26 Try.sizeOf26 hB3 rfl rfl rfl) ?_
    refine S_gc1 rfl rfl (fun hb => R_callF Try.call29 (mapv2 (cgE hb) (cgE hb)) rfl) (fun hb => c29 (b) (c) _) (fun w9 e10 => ?_)
    replace hE := hE.trans e10
    replace hB1 := hB1.ext e10
    replace hB2 := hB2.ext e10
    replace hB3 := hB3.ext e10
    refine S_v (R_pickA rfl rfl rfl) ?_
    refine S_v (R_move rfl) ?_
    refine S_gc1 rfl rfl (fun hb => R_callF Try.call28 rfl rfl) (fun hb => c28  _) (fun w10 e11 => ?_)
    replace hE := hE.trans e11
    replace hB1 := hB1.ext e11
    replace hB2 := hB2.ext e11
    replace hB3 := hB3.ext e11
    refine S_v (R_pickA rfl rfl rfl) ?_
    refine S_v (R_assign rfl) ?_
    refine S_nil ?_
    refine T_tn ?_
    refine wp_ret ?_
    refine ret1 (v := .bool _) rfl rfl ⟨congrArg (fun b => Ending.returned (Value.bool b)) ?_, hE⟩
    first | rfl | (simp at c7; have := less_mid c7.1.1 c7.1.2 c7.2; simp [this.1, this.2])
end Go.Proofs.Yteeopgpgbdhmhaa
