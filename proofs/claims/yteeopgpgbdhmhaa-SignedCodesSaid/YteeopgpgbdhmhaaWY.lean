/- Walks of the functions on bytes: SignedCodes. No condition. Printed by wip/mkY.py. -/
import Derived.Test.YteeopgpgbdhmhaaWX
import Derived.Test.YteeopgpgbdhmhaaGl
namespace Go.Proofs.Yteeopgpgbdhmhaa
open Go.RowKit
set_option linter.unusedVariables false
set_option linter.unusedSimpArgs false
attribute [local irreducible] wpList wpO H wpQuiet wpStill Code.wp Exit.then Exit.inBlock bodyPost Code.rounds Calls valid sameKey conflict lessV hless num between
-- forkledger/forkledgerlaw8.SignedCodes
set_option maxRecDepth 4000 in
set_option maxHeartbeats 2000000 in
theorem c18 (v0 : Value) (x : Sg) (v : Value) (b : List UInt8) (w : World) (hs0 : SgIn w v0 x) (h : Bs w v b) : Calls Try.prog 18 [v0, v].toArray w (Ret w (.bool true)) := by
  have hs := hs0.2.1
  obtain rfl := hs0.1
  refine enter Try.func18 Try.ntmps18 rfl rfl ?_
  have hE := Ext.refl w
  refine wp_seq ?_
  refine W_region ?_
  refine L (D_box (c := (x).l) (rfl) (fun aB1_0 w1_0 e1_0 gB1_0 hB1_0 => ?_))
  have lB1_0 := Nat.le_trans hE.size gB1_0
  replace hE := hE.trans e1_0
  refine L (D_v (R_assign rfl) ?_)
  refine S_nil ?_
  refine T_tn ?_
  refine wp_seq ?_
  refine W_region ?_
  refine L (D_v (R_loadA (c := (x).l) Try.isAgg53 Try.sizeOf53 hB1_0 rfl rfl rfl) ?_)
  refine L (D_callE (R_callF Try.call66 rfl rfl) (c66 (x) _ (hs.fb (Fb.ext hE)).ok) (fun v2_1 w2_1 e2_1 p2_1 => ?_))
  obtain ⟨q2_1, rfl, o2_1⟩ := p2_1
  replace o2_1 := o2_1.lo hE.size
  replace hE := hE.trans e2_1
  replace hB1_0 := hB1_0.ext e2_1
  refine L (D_v (R_move rfl) ?_)
  refine L (D_v (R_extract rfl rfl) ?_)
  refine L (D_v (R_extract rfl rfl) ?_)
  refine L (D_v (R_assign rfl) ?_)
  refine L (D_v (R_assign rfl) ?_)
  refine S_nil ?_
  refine T_tn ?_
  refine wp_seq ?_
  refine W_region ?_
  refine L (D_v (R_loadA (c := (x).l) Try.isAgg53 Try.sizeOf53 hB1_0 rfl rfl rfl) ?_)
  refine L (D_callE (R_callF Try.call67 rfl rfl) (c67 (x) _ (hs.fb (Fb.ext hE)).ok) (fun v3_1 w3_1 e3_1 p3_1 => ?_))
  obtain ⟨q3_1, rfl, o3_1⟩ := p3_1
  have zq2_1_q3_1 := own_apart o2_1 o3_1
  have zq3_1_q2_1 := fun k hk hk2 => zq2_1_q3_1 k hk2 hk
  replace o3_1 := o3_1.lo hE.size
  replace hE := hE.trans e3_1
  replace hB1_0 := hB1_0.ext e3_1
  replace o2_1 := o2_1.ext e3_1
  refine L (D_v (R_move rfl) ?_)
  refine L (D_v (R_extract rfl rfl) ?_)
  refine L (D_v (R_extract rfl rfl) ?_)
  refine L (D_v (R_assign rfl) ?_)
  refine L (D_v (R_assign rfl) ?_)
  refine S_nil ?_
  refine T_tn ?_
  refine wp_seq ?_
  refine W_region ?_
  refine L (D_v (R_move rfl) ?_)
  refine L (D_callE (R_callF Try.call68 rfl rfl) (c68 v (b) _ (h.ext hE)) (fun v4_1 w4_1 e4_1 p4_1 => ?_))
  obtain ⟨x4_1, rfl, p4_1a, k4_1⟩ := p4_1
  replace hE := hE.trans e4_1
  replace hB1_0 := hB1_0.ext e4_1
  replace o2_1 := o2_1.ext e4_1
  replace o3_1 := o3_1.ext e4_1
  refine L (D_v (R_move rfl) ?_)
  refine L (D_v (R_extract rfl rfl) ?_)
  refine L (D_v (R_extract rfl rfl) ?_)
  refine L (D_alloc (c := (Sg.zero).l) Try.zeroValue53 rfl (fun aB4_5 w4_5 e4_5 gB4_5 hB4_5 => ?_))
  have lB4_5 := Nat.le_trans hE.size gB4_5
  have nB1_0B4_5 := hB1_0.ne gB4_5
  replace hE := hE.trans e4_5
  replace hB1_0 := hB1_0.ext e4_5
  replace o2_1 := o2_1.ext e4_5
  replace o3_1 := o3_1.ext e4_5
  replace k4_1 := k4_1.fb (Fb.ext e4_5)
  have xo2_1 := own_neB o2_1 hB4_5 rfl
  have xo3_1 := own_neB o3_1 hB4_5 rfl
  have h0 := hB4_5
  refine L (D_storeA Try.sizeOf53 hB4_5 rfl rfl rfl rfl rfl (l' := (x4_1).l) rfl (fun w4_6 k4_6 hB4_5 => ?_))
  have f4_6 := Fb.kp k4_6 (Nat.le_trans (Nat.le_refl _) lB4_5) (Blk.notB h0 rfl)
  replace hE := hE.kp k4_6 lB4_5
  replace hB1_0 := hB1_0.kp k4_6 nB1_0B4_5
  replace o2_1 := o2_1.kp k4_6 xo2_1
  replace o3_1 := o3_1.kp k4_6 xo3_1
  replace k4_1 := k4_1.fb (Fb.kp k4_6 (Nat.zero_le _) (Blk.notB h0 rfl))
  refine L (D_v (R_assign rfl) ?_)
  refine S_nil ?_
  refine T_tn ?_
  refine wp_seq ?_
  refine W_region ?_
  refine L (D_v (R_move rfl) ?_)
  refine L (D_callE (R_callF Try.call69 rfl rfl) (c69 v (b) _ (h.ext hE)) (fun v5_1 w5_1 e5_1 p5_1 => ?_))
  obtain ⟨x5_1, rfl, p5_1a, k5_1⟩ := p5_1
  replace hE := hE.trans e5_1
  replace hB1_0 := hB1_0.ext e5_1
  replace hB4_5 := hB4_5.ext e5_1
  replace o2_1 := o2_1.ext e5_1
  replace o3_1 := o3_1.ext e5_1
  replace k4_1 := k4_1.fb (Fb.ext e5_1)
  refine L (D_v (R_move rfl) ?_)
  refine L (D_v (R_extract rfl rfl) ?_)
  refine L (D_v (R_extract rfl rfl) ?_)
  refine L (D_alloc (c := (Sg.zero).l) Try.zeroValue53 rfl (fun aB5_5 w5_5 e5_5 gB5_5 hB5_5 => ?_))
  have lB5_5 := Nat.le_trans hE.size gB5_5
  have nB1_0B5_5 := hB1_0.ne gB5_5
  have nB4_5B5_5 := hB4_5.ne gB5_5
  replace hE := hE.trans e5_5
  replace hB1_0 := hB1_0.ext e5_5
  replace hB4_5 := hB4_5.ext e5_5
  replace o2_1 := o2_1.ext e5_5
  replace o3_1 := o3_1.ext e5_5
  replace k4_1 := k4_1.fb (Fb.ext e5_5)
  replace k5_1 := k5_1.fb (Fb.ext e5_5)
  have xo2_1 := own_neB o2_1 hB5_5 rfl
  have xo3_1 := own_neB o3_1 hB5_5 rfl
  have h0 := hB5_5
  refine L (D_storeA Try.sizeOf53 hB5_5 rfl rfl rfl rfl rfl (l' := (x5_1).l) rfl (fun w5_6 k5_6 hB5_5 => ?_))
  have f5_6 := Fb.kp k5_6 (Nat.le_trans (Nat.le_refl _) lB5_5) (Blk.notB h0 rfl)
  replace hE := hE.kp k5_6 lB5_5
  replace hB1_0 := hB1_0.kp k5_6 nB1_0B5_5
  replace hB4_5 := hB4_5.kp k5_6 nB4_5B5_5
  replace o2_1 := o2_1.kp k5_6 xo2_1
  replace o3_1 := o3_1.kp k5_6 xo3_1
  replace k4_1 := k4_1.fb (Fb.kp k5_6 (Nat.zero_le _) (Blk.notB h0 rfl))
  replace k5_1 := k5_1.fb (Fb.kp k5_6 (Nat.zero_le _) (Blk.notB h0 rfl))
  refine L (D_v (R_assign rfl) ?_)
  refine S_nil ?_
  refine T_tn ?_
  refine wp_seq ?_
  refine wp_seq ?_
  refine W_region ?_
  refine L (D_v (R_move rfl) ?_)
  refine L (D_v (R_str (b := (encS (x))) rfl o2_1.bs) ?_)
  refine L (D_v (R_move rfl) ?_)
  refine L (D_v (R_str (b := (encS (x))) rfl o3_1.bs) ?_)
  refine L (D_v (R_neqStr (a := (encS (x))) (b := (encS (x))) rfl rfl) ?_)
  refine L (D_v (R_move rfl) ?_)
  refine L (D_g1 rfl rfl (fun hb => R_move rfl) ?_)
  refine L (D_g1 rfl rfl (fun hb => R_move rfl) ?_)
  refine L (D_g1 rfl rfl (fun hb => R_neqB Try.underlying4 (cgE hb) (cgE hb)) ?_)
  refine L (D_v (R_pickO rfl rfl rfl) ?_)
  refine L (D_v (R_move rfl) ?_)
  refine L (D_g1 rfl rfl (fun hb => R_loadA (c := (x4_1).l) Try.isAgg53 Try.sizeOf53 hB4_5 rfl rfl rfl) ?_)
  refine L (D_g1 rfl rfl (fun hb => R_loadA (c := (x5_1).l) Try.isAgg53 Try.sizeOf53 hB5_5 rfl rfl rfl) ?_)
  refine L (D_gc1 rfl rfl (fun hb => R_callF Try.call55 (mapv2 (cgE hb) (cgE hb)) rfl) (fun hb => c55 (x4_1) (x5_1) _ ((k4_1.up (Nat.zero_le _)).up (Nat.le_trans (Nat.le_refl _) hE.size)) ((k5_1.up (Nat.zero_le _)).up (Nat.le_trans (Nat.le_refl _) hE.size))) (fun w6_13 e6_13 => ?_))
  replace hE := hE.trans e6_13
  replace hB1_0 := hB1_0.ext e6_13
  replace hB4_5 := hB4_5.ext e6_13
  replace hB5_5 := hB5_5.ext e6_13
  replace o2_1 := o2_1.ext e6_13
  replace o3_1 := o3_1.ext e6_13
  replace k4_1 := k4_1.fb (Fb.ext e6_13)
  replace k5_1 := k5_1.fb (Fb.ext e6_13)
  refine L (D_g1 rfl rfl (fun hb => R_not (cgE hb)) ?_)
  refine L (D_v (R_pickO rfl rfl rfl) ?_)
  refine L (D_v (R_move rfl) ?_)
  refine L (D_g1 rfl rfl (fun hb => R_move rfl) ?_)
  refine L (D_g1 rfl rfl (fun hb => R_move rfl) ?_)
  refine L (D_g1 rfl rfl (fun hb => R_neqI (cgE hb) (cgE hb)) ?_)
  refine L (D_v (R_pickO rfl rfl rfl) ?_)
  refine S_nil ?_
  refine T_tn ?_
  refine W_if rfl (fun c1 => ?_) (fun c1 => ?_)
  ·
    exfalso; rw [p4_1a, p5_1a] at c1; simp [sameS_refl] at c1
  ·
    refine wp_skip ?_
    refine T_tn ?_
    refine wp_seq ?_
    refine wp_seq ?_
    refine W_region ?_
    refine L (D_v (R_move rfl) ?_)
    refine S_nil ?_
    refine T_tn ?_
    refine W_if rfl (fun c2 => ?_) (fun c2 => ?_)
    ·
      have hok : okS x = true := c2
      have hl := encS_len hok
      have hde := decS_enc hs0.2.2 hok
      refine wp_seq ?_
      refine W_region ?_
      refine L (D_v (R_move rfl) ?_)
      refine L (D_callE (R_callF Try.call68 rfl rfl) (c68 q2_1 ((encS (x))) _ o2_1.bs) (fun v8_1 w8_1 e8_1 p8_1 => ?_))
      obtain ⟨x8_1, rfl, p8_1a, k8_1⟩ := p8_1
      replace hE := hE.trans e8_1
      replace hB1_0 := hB1_0.ext e8_1
      replace o2_1 := o2_1.ext e8_1
      replace k4_1 := k4_1.fb (Fb.ext e8_1)
      replace k5_1 := k5_1.fb (Fb.ext e8_1)
      refine L (D_v (R_move rfl) ?_)
      refine L (D_v (R_extract rfl rfl) ?_)
      refine L (D_v (R_extract rfl rfl) ?_)
      refine L (D_alloc (c := (Sg.zero).l) Try.zeroValue53 rfl (fun aB8_5 w8_5 e8_5 gB8_5 hB8_5 => ?_))
      have lB8_5 := Nat.le_trans hE.size gB8_5
      have nB1_0B8_5 := hB1_0.ne gB8_5
      replace hE := hE.trans e8_5
      replace hB1_0 := hB1_0.ext e8_5
      replace o2_1 := o2_1.ext e8_5
      replace k4_1 := k4_1.fb (Fb.ext e8_5)
      replace k5_1 := k5_1.fb (Fb.ext e8_5)
      replace k8_1 := k8_1.fb (Fb.ext e8_5)
      have xo2_1 := own_neB o2_1 hB8_5 rfl
      have h0 := hB8_5
      refine L (D_storeA Try.sizeOf53 hB8_5 rfl rfl rfl rfl rfl (l' := (x8_1).l) rfl (fun w8_6 k8_6 hB8_5 => ?_))
      have f8_6 := Fb.kp k8_6 (Nat.le_trans (Nat.le_refl _) lB8_5) (Blk.notB h0 rfl)
      replace hE := hE.kp k8_6 lB8_5
      replace hB1_0 := hB1_0.kp k8_6 nB1_0B8_5
      replace o2_1 := o2_1.kp k8_6 xo2_1
      replace k4_1 := k4_1.fb (Fb.kp k8_6 (Nat.zero_le _) (Blk.notB h0 rfl))
      replace k5_1 := k5_1.fb (Fb.kp k8_6 (Nat.zero_le _) (Blk.notB h0 rfl))
      replace k8_1 := k8_1.fb (Fb.kp k8_6 (Nat.zero_le _) (Blk.notB h0 rfl))
      refine L (D_v (R_assign rfl) ?_)
      refine S_nil ?_
      refine T_tn ?_
      refine wp_seq ?_
      refine W_region ?_
      refine L (D_v (R_move rfl) ?_)
      refine L (D_v (R_eqlI rfl rfl) ?_)
      refine L (D_v (R_move rfl) ?_)
      refine L (D_g1 rfl rfl (fun hb => R_loadA (c := (x8_1).l) Try.isAgg53 Try.sizeOf53 hB8_5 rfl rfl rfl) ?_)
      refine L (D_g1 rfl rfl (fun hb => R_loadA (c := (x).l) Try.isAgg53 Try.sizeOf53 hB1_0 rfl rfl rfl) ?_)
      refine L (D_gc1 rfl rfl (fun hb => R_callF Try.call55 (mapv2 (cgE hb) (cgE hb)) rfl) (fun hb => c55 (x8_1) (x) _ ((k8_1.up (Nat.zero_le _)).up (Nat.le_trans (Nat.le_refl _) hE.size)) ((hs.fb (Fb.ext hE)).up (Nat.le_trans (Nat.le_refl _) hE.size))) (fun w9_5 e9_5 => ?_))
      replace hE := hE.trans e9_5
      replace hB1_0 := hB1_0.ext e9_5
      replace hB8_5 := hB8_5.ext e9_5
      replace o2_1 := o2_1.ext e9_5
      replace k4_1 := k4_1.fb (Fb.ext e9_5)
      replace k5_1 := k5_1.fb (Fb.ext e9_5)
      replace k8_1 := k8_1.fb (Fb.ext e9_5)
      refine L (D_v (R_pickA rfl rfl rfl) ?_)
      refine L (D_v (R_move rfl) ?_)
      refine L (D_g1 rfl rfl (fun hb => R_move rfl) ?_)
      refine L (D_g1 rfl rfl (fun hb => R_len Try.underlying31 (cgE hb) o2_1.bs) ?_)
      refine L (D_g1 rfl rfl (fun hb => R_eqlI (cgE hb) rfl) ?_)
      refine L (D_v (R_pickA rfl rfl rfl) ?_)
      refine L (D_v (R_move rfl) ?_)
      refine L (D_gc1 rfl rfl (fun hb => R_callF Try.call56 rfl rfl) (fun hb => c56 _) (fun w9_13 e9_13 => ?_))
      replace hE := hE.trans e9_13
      replace hB1_0 := hB1_0.ext e9_13
      replace hB8_5 := hB8_5.ext e9_13
      replace o2_1 := o2_1.ext e9_13
      replace k4_1 := k4_1.fb (Fb.ext e9_13)
      replace k5_1 := k5_1.fb (Fb.ext e9_13)
      replace k8_1 := k8_1.fb (Fb.ext e9_13)
      refine L (D_v (R_pickA rfl rfl rfl) ?_)
      refine L (D_v (R_assign rfl) ?_)
      refine S_nil ?_
      refine T_tn ?_
      refine wp_ret ?_
      refine T_tr ?_
      refine ret1 (v := .bool _) rfl rfl ⟨congrArg (fun b => Ending.returned (Value.bool b)) ?_, hE⟩
      rw [p8_1a]; simp [hde, sameS_refl, hl]
    ·
      refine wp_skip ?_
      refine T_tn ?_
      refine wp_seq ?_
      refine W_region ?_
      refine L (D_call (R_callF Try.call56 rfl rfl) (c56 _) (fun w8_0 e8_0 => ?_))
      replace hE := hE.trans e8_0
      replace k4_1 := k4_1.fb (Fb.ext e8_0)
      replace k5_1 := k5_1.fb (Fb.ext e8_0)
      refine L (D_v (R_assign rfl) ?_)
      refine S_nil ?_
      refine T_tn ?_
      refine wp_ret ?_
      refine ret1 (v := .bool _) rfl rfl ⟨congrArg (fun b => Ending.returned (Value.bool b)) ?_, hE⟩
      rfl
end Go.Proofs.Yteeopgpgbdhmhaa
