/- Walks of the functions on bytes: Check at two inputs, CheckerBuilds. No condition. Printed by wip/mkH.py. -/
import Derived.Test.YteeopgpgbdhmhaaWI
import Derived.Test.YteeopgpgbdhmhaaSj
namespace Go.Proofs.Yteeopgpgbdhmhaa
open Go.RowKit
set_option linter.unusedVariables false
set_option linter.unusedSimpArgs false
attribute [local irreducible] wpList wpO H wpQuiet wpStill Code.wp Exit.then Exit.inBlock bodyPost Code.rounds Calls valid sameKey conflict lessV hless num between
-- forkledger/checker.Check
set_option maxRecDepth 4000 in
set_option maxHeartbeats 1000000 in
theorem c45_0 (k : Int) (w : World) (hk : k = 2) : Calls Try.prog 45 [(Value.slice none 0 0), (Value.slice none 0 0)].toArray w (Ret w (.tuple #[i64 0, i64 k])) := by
  refine enter Try.func45 Try.ntmps45 rfl rfl ?_
  have hE := Ext.refl w
  refine wp_seq ?_
  refine W_region ?_
  refine L (D_v (R_assign rfl) ?_)
  refine L (D_v (R_assign rfl) ?_)
  refine S_nil ?_
  refine T_tn ?_
  refine W_scope 0 rfl ?_
  refine wp_seq ?_
  refine W_region ?_
  refine L (D_v (R_assign rfl) ?_)
  refine S_nil ?_
  refine T_tn ?_
  refine wp_seq ?_
  refine W_region ?_
  refine L (D_v (R_assign rfl) ?_)
  refine S_nil ?_
  refine T_tn ?_
  refine wp_seq ?_
  refine W_region ?_
  refine L (D_v (R_assign rfl) ?_)
  refine L (D_v (R_assign rfl) ?_)
  refine S_nil ?_
  refine T_tn ?_
  refine wp_seq ?_
  refine wp_seq ?_
  refine W_region ?_
  refine L (D_v (R_move rfl) ?_)
  refine L (D_v (R_cast (v' := i64 (0)) (R_len Try.underlying31 rfl (OwnB.nil w 0).bs) rfl) ?_)
  refine L (D_v (R_cast (v' := .bool true) (R_eqlI rfl rfl) rfl) ?_)
  refine S_nil ?_
  refine T_tn ?_
  refine W_ift rfl ?_
  refine wp_goto ?_
  refine T_tg ?_
  refine T_sg ?_
  refine wp_seq ?_
  refine wp_skip ?_
  refine T_tn ?_
  refine wp_seq ?_
  refine W_region ?_
  refine L (D_v (R_move rfl) ?_)
  refine L (D_v (R_assign rfl) ?_)
  refine L (D_v (R_assign rfl) ?_)
  refine S_nil ?_
  refine T_tn ?_
  refine wp_ret ?_
  refine T_sr ?_
  refine ret2 (v := .int _ _) (v2 := .int _ _) rfl rfl rfl ⟨?_, hE⟩
  subst hk; rfl

-- forkledger/checker.Check
set_option maxRecDepth 4000 in
set_option maxHeartbeats 1000000 in
theorem c45_1 (v : Value) (z : UInt8) (k : Int) (w : World) (h : Bs w v [z]) (hz : z.toNat = 0) (hk : k = 4) : Calls Try.prog 45 [(Value.slice none 0 0), v].toArray w (Ret w (.tuple #[i64 0, i64 k])) := by
  refine enter Try.func45 Try.ntmps45 rfl rfl ?_
  have hE := Ext.refl w
  refine wp_seq ?_
  refine W_region ?_
  refine L (D_v (R_assign rfl) ?_)
  refine L (D_v (R_assign rfl) ?_)
  refine S_nil ?_
  refine T_tn ?_
  refine W_scope 0 rfl ?_
  refine wp_seq ?_
  refine W_region ?_
  refine L (D_v (R_assign rfl) ?_)
  refine S_nil ?_
  refine T_tn ?_
  refine wp_seq ?_
  refine W_region ?_
  refine L (D_v (R_assign rfl) ?_)
  refine S_nil ?_
  refine T_tn ?_
  refine wp_seq ?_
  refine W_region ?_
  refine L (D_v (R_assign rfl) ?_)
  refine L (D_v (R_assign rfl) ?_)
  refine S_nil ?_
  refine T_tn ?_
  refine wp_seq ?_
  refine wp_seq ?_
  refine W_region ?_
  refine L (D_v (R_move rfl) ?_)
  refine L (D_v (R_cast (v' := i64 (1)) (R_len Try.underlying31 rfl (h.ext hE)) rfl) ?_)
  refine L (D_v (R_cast (v' := .bool false) (R_eqlI rfl rfl) rfl) ?_)
  refine S_nil ?_
  refine T_tn ?_
  refine W_iff rfl ?_
  refine wp_skip ?_
  refine T_tn ?_
  refine wp_seq ?_
  refine W_region ?_
  refine L (D_v (R_move rfl) ?_)
  refine L (D_v (R_sliceLo (i := 1) Try.underlying31 Try.sizeOf5 rfl rfl (h.ext hE) (Nat.le_of_ble_eq_true rfl)) ?_)
  refine L (D_v (R_assign rfl) ?_)
  refine S_nil ?_
  refine T_tn ?_
  refine wp_seq ?_
  refine wp_seq ?_
  refine W_region ?_
  refine L (D_v (R_move rfl) ?_)
  refine L (D_v (R_elAddr (i := 0) Try.underlying31 Try.sizeOf5 rfl rfl (h.ext hE) (Nat.le_of_ble_eq_true rfl)) ?_)
  refine L (D_v (R_loadEl (u := u8 (z)) Try.isAgg5 rfl (h.ext hE) rfl) ?_)
  refine L (D_v (R_convU (b := z) Try.runUnderlying3 (by decide) rfl) ?_)
  refine L (D_v (R_assign rfl) ?_)
  refine S_nil ?_
  refine T_tn ?_
  refine wp_block ?_
  refine wp_seq ?_
  refine W_region ?_
  refine L (D_v (R_move rfl) ?_)
  refine L (D_v (R_eqlI rfl rfl) ?_)
  refine L (D_v (R_move rfl) ?_)
  refine L (D_g1 rfl rfl (fun hb => R_move rfl) ?_)
  refine L (D_g1 rfl rfl (fun hb => R_gtrI (cgE hb) rfl) ?_)
  refine L (D_v (R_pickO rfl rfl rfl) ?_)
  refine L (D_v (R_assign rfl) ?_)
  refine S_nil ?_
  refine T_tn ?_
  refine W_if rfl (fun c1 => ?_) (fun c1 => ?_)
  ·
    refine wp_seq ?_
    refine W_region ?_
    refine L (D_v (R_assign rfl) ?_)
    refine S_nil ?_
    refine T_tn ?_
    refine wp_goto ?_
    refine T_bg ?_
    refine T_tg ?_
    refine T_sg ?_
    refine wp_seq ?_
    refine wp_skip ?_
    refine T_tn ?_
    refine wp_seq ?_
    refine W_region ?_
    refine L (D_v (R_move rfl) ?_)
    refine L (D_v (R_assign rfl) ?_)
    refine L (D_v (R_assign rfl) ?_)
    refine S_nil ?_
    refine T_tn ?_
    refine wp_ret ?_
    refine T_sr ?_
    refine ret2 (v := .int _ _) (v2 := .int _ _) rfl rfl rfl ⟨?_, hE⟩
    subst hk; rfl
  ·
    simp [hz] at c1

-- forkledger/forkledgerlaw10.awake
set_option maxRecDepth 4000 in
set_option maxHeartbeats 1000000 in
theorem c44  (w : World) : Calls Try.prog 44 [].toArray w (Ret w (.bool true)) := by
  refine enter Try.func44 Try.ntmps44 rfl rfl ?_
  have hE := Ext.refl w
  obtain ⟨k2, hk2⟩ : ∃ k : Int, k = 2 := ⟨2, rfl⟩
  obtain ⟨k4, hk4⟩ : ∃ k : Int, k = 4 := ⟨4, rfl⟩
  refine wp_seq ?_
  refine W_region ?_
  refine L (D_v (R_assign rfl) ?_)
  refine S_nil ?_
  refine T_tn ?_
  refine wp_seq ?_
  refine W_region ?_
  refine L (D_call (R_callF Try.call45 rfl rfl) (c45_0 k2 _ hk2) (fun w1 e1 => ?_))
  replace hE := hE.trans e1
  refine L (D_v (R_move rfl) ?_)
  refine L (D_v (R_extract rfl rfl) ?_)
  refine L (D_v (R_extract rfl rfl) ?_)
  refine L (D_v (R_assign rfl) ?_)
  refine L (D_v (R_assign rfl) ?_)
  refine S_nil ?_
  refine T_tn ?_
  refine wp_seq ?_
  refine W_region ?_
  refine L (D_buildB (vs := [(0, u8 (0))]) (b := [0]) Try.underlying31 Try.sizeOf5 Try.zeroValue5 rfl (fillB1 _) rfl rfl rfl (fun v3 w2 o4 e2 => ?_))
  replace o4 := o4.lo hE.size
  replace hE := hE.trans e2
  refine L (D_call (R_callF Try.call45 rfl rfl) (c45_1 v3 0 k4 _ o4.bs rfl hk4) (fun w3 e5 => ?_))
  replace hE := hE.trans e5
  replace o4 := o4.ext e5
  refine L (D_v (R_move rfl) ?_)
  refine L (D_v (R_extract rfl rfl) ?_)
  refine L (D_v (R_extract rfl rfl) ?_)
  refine L (D_v (R_assign rfl) ?_)
  refine L (D_v (R_assign rfl) ?_)
  refine S_nil ?_
  refine T_tn ?_
  refine wp_seq ?_
  refine W_region ?_
  refine L (D_callE (R_callF Try.call42 rfl rfl) (c42 (.slice none 0 0) [] _ (Es.nil _)) (fun v7 w4 e6 p8 => ?_))
  obtain ⟨q10, rfl, o9⟩ := p8
  replace o9 := o9.lo hE.size
  replace hE := hE.trans e6
  replace o4 := o4.ext e6
  refine L (D_v (R_move rfl) ?_)
  refine L (D_v (R_extract rfl rfl) ?_)
  refine L (D_v (R_extract rfl rfl) ?_)
  refine L (D_v (R_assign rfl) ?_)
  refine L (D_v (R_assign rfl) ?_)
  refine S_nil ?_
  refine T_tn ?_
  refine wp_seq ?_
  refine W_region ?_
  refine L (D_v (R_move rfl) ?_)
  refine L (D_v (R_eqlI rfl rfl) ?_)
  refine L (D_v (R_move rfl) ?_)
  refine L (D_g1 rfl rfl (fun hb => R_move rfl) ?_)
  refine L (D_g1 rfl rfl (fun hb => R_eqlI (cgE hb) rfl) ?_)
  refine L (D_v (R_pickA rfl rfl rfl) ?_)
  refine L (D_v (R_move rfl) ?_)
  refine L (D_g1 rfl rfl (fun hb => R_move rfl) ?_)
  refine L (D_g1 rfl rfl (fun hb => R_not (cgE hb)) ?_)
  refine L (D_v (R_pickA rfl rfl rfl) ?_)
  refine L (D_v (R_assign rfl) ?_)
  refine S_nil ?_
  refine T_tn ?_
  refine wp_ret ?_
  refine ret1 (v := .bool _) rfl rfl ⟨congrArg (fun b => Ending.returned (Value.bool b)) ?_, hE⟩
  subst hk2 hk4; rfl

-- forkledger/forkledgerlaw10.CheckerBuilds
set_option maxRecDepth 4000 in
set_option maxHeartbeats 1000000 in
theorem c10 (v : Value) (es : List Ev) (w : World) (h : Es w v es) : Calls Try.prog 10 [v].toArray w (Ret w (.bool true)) := by
  refine enter Try.func10 Try.ntmps10 rfl rfl ?_
  have hE := Ext.refl w
  refine wp_seq ?_
  refine W_region ?_
  refine L (D_v (R_assign rfl) ?_)
  refine S_nil ?_
  refine T_tn ?_
  refine wp_seq ?_
  refine wp_seq ?_
  refine W_region ?_
  refine L (D_v (R_move rfl) ?_)
  refine L (D_v (R_len Try.underlying42 rfl (h.ext hE).1) ?_)
  refine L (D_v (R_gtrI rfl rfl) ?_)
  refine S_nil ?_
  refine T_tn ?_
  refine W_if rfl (fun c1 => ?_) (fun c1 => ?_)
  ·
    have hk : 30 ≤ es.length := by (generalize es.length = L at c1 ⊢; simp at c1; omega)
    refine W_region ?_
    refine L (D_v (R_move rfl) ?_)
    refine L (D_v (R_sliceHi (j := 30) Try.underlying42 Try.sizeOf55 rfl rfl (h.ext hE).1 hk) ?_)
    refine L (D_v (R_assign rfl) ?_)
    refine S_nil ?_
    refine T_tn ?_
    refine wp_seq ?_
    refine W_region ?_
    refine L (D_v (R_move rfl) ?_)
    refine L (D_callE (R_callF Try.call42 rfl rfl) (c42 (cutV v 46 0 30) ((es.take 30)) _ ((h.take 30 hk).ext hE)) (fun v3 w1 e2 p4 => ?_))
    obtain ⟨q6, rfl, o5⟩ := p4
    replace o5 := o5.lo hE.size
    replace hE := hE.trans e2
    refine L (D_v (R_move rfl) ?_)
    refine L (D_v (R_extract rfl rfl) ?_)
    refine L (D_v (R_extract rfl rfl) ?_)
    refine L (D_v (R_assign rfl) ?_)
    refine L (D_v (R_assign rfl) ?_)
    refine S_nil ?_
    refine T_tn ?_
    refine wp_seq ?_
    refine W_region ?_
    refine L (D_v (R_move rfl) ?_)
    refine L (D_callE (R_callF Try.call43 rfl rfl) (c43 (cutV v 46 0 30) ((es.take 30)) _ ((h.take 30 hk).ext hE)) (fun v8 w2 e7 p9 => ?_))
    obtain ⟨q11, rfl, o10⟩ := p9
    replace o10 := o10.lo hE.size
    replace hE := hE.trans e7
    replace o5 := o5.ext e7
    refine L (D_v (R_move rfl) ?_)
    refine L (D_v (R_extract rfl rfl) ?_)
    refine L (D_v (R_extract rfl rfl) ?_)
    refine L (D_v (R_assign rfl) ?_)
    refine L (D_v (R_assign rfl) ?_)
    refine S_nil ?_
    refine T_tn ?_
    refine wp_seq ?_
    refine W_region ?_
    refine L (D_v (R_move rfl) ?_)
    refine L (D_v (R_str (b := (build ((es.take 30))).1) rfl o5.bs) ?_)
    refine L (D_v (R_move rfl) ?_)
    refine L (D_v (R_str (b := (build ((es.take 30))).1) rfl o10.bs) ?_)
    refine L (D_v (R_eqlStr (a := (build ((es.take 30))).1) (b := (build ((es.take 30))).1) rfl rfl) ?_)
    refine L (D_v (R_move rfl) ?_)
    refine L (D_g1 rfl rfl (fun hb => R_move rfl) ?_)
    refine L (D_g1 rfl rfl (fun hb => R_move rfl) ?_)
    refine L (D_g1 rfl rfl (fun hb => R_eqlB Try.underlying4 (cgE hb) (cgE hb)) ?_)
    refine L (D_v (R_pickA rfl rfl rfl) ?_)
    refine L (D_v (R_move rfl) ?_)
    refine L (D_gc1 rfl rfl (fun hb => R_callF Try.call44 rfl rfl) (fun hb => c44 _) (fun w3 e12 => ?_))
    replace hE := hE.trans e12
    replace o5 := o5.ext e12
    replace o10 := o10.ext e12
    refine L (D_v (R_pickA rfl rfl rfl) ?_)
    refine L (D_v (R_assign rfl) ?_)
    refine S_nil ?_
    refine T_tn ?_
    refine wp_ret ?_
    refine ret1 (v := .bool _) rfl rfl ⟨congrArg (fun b => Ending.returned (Value.bool b)) ?_, hE⟩
    simp
  ·
    refine wp_skip ?_
    refine T_tn ?_
    refine wp_seq ?_
    refine W_region ?_
    refine L (D_v (R_move rfl) ?_)
    refine L (D_callE (R_callF Try.call42 rfl rfl) (c42 v (es) _ (h.ext hE)) (fun v14 w4 e13 p15 => ?_))
    obtain ⟨q17, rfl, o16⟩ := p15
    replace o16 := o16.lo hE.size
    replace hE := hE.trans e13
    refine L (D_v (R_move rfl) ?_)
    refine L (D_v (R_extract rfl rfl) ?_)
    refine L (D_v (R_extract rfl rfl) ?_)
    refine L (D_v (R_assign rfl) ?_)
    refine L (D_v (R_assign rfl) ?_)
    refine S_nil ?_
    refine T_tn ?_
    refine wp_seq ?_
    refine W_region ?_
    refine L (D_v (R_move rfl) ?_)
    refine L (D_callE (R_callF Try.call43 rfl rfl) (c43 v (es) _ (h.ext hE)) (fun v19 w5 e18 p20 => ?_))
    obtain ⟨q22, rfl, o21⟩ := p20
    replace o21 := o21.lo hE.size
    replace hE := hE.trans e18
    replace o16 := o16.ext e18
    refine L (D_v (R_move rfl) ?_)
    refine L (D_v (R_extract rfl rfl) ?_)
    refine L (D_v (R_extract rfl rfl) ?_)
    refine L (D_v (R_assign rfl) ?_)
    refine L (D_v (R_assign rfl) ?_)
    refine S_nil ?_
    refine T_tn ?_
    refine wp_seq ?_
    refine W_region ?_
    refine L (D_v (R_move rfl) ?_)
    refine L (D_v (R_str (b := (build (es)).1) rfl o16.bs) ?_)
    refine L (D_v (R_move rfl) ?_)
    refine L (D_v (R_str (b := (build (es)).1) rfl o21.bs) ?_)
    refine L (D_v (R_eqlStr (a := (build (es)).1) (b := (build (es)).1) rfl rfl) ?_)
    refine L (D_v (R_move rfl) ?_)
    refine L (D_g1 rfl rfl (fun hb => R_move rfl) ?_)
    refine L (D_g1 rfl rfl (fun hb => R_move rfl) ?_)
    refine L (D_g1 rfl rfl (fun hb => R_eqlB Try.underlying4 (cgE hb) (cgE hb)) ?_)
    refine L (D_v (R_pickA rfl rfl rfl) ?_)
    refine L (D_v (R_move rfl) ?_)
    refine L (D_gc1 rfl rfl (fun hb => R_callF Try.call44 rfl rfl) (fun hb => c44 _) (fun w6 e23 => ?_))
    replace hE := hE.trans e23
    replace o16 := o16.ext e23
    replace o21 := o21.ext e23
    refine L (D_v (R_pickA rfl rfl rfl) ?_)
    refine L (D_v (R_assign rfl) ?_)
    refine S_nil ?_
    refine T_tn ?_
    refine wp_ret ?_
    refine ret1 (v := .bool _) rfl rfl ⟨congrArg (fun b => Ending.returned (Value.bool b)) ?_, hE⟩
    simp
end Go.Proofs.Yteeopgpgbdhmhaa
