/- Walks of the functions on bytes: the decoding of votes. No condition. Printed by wip/mkD.py. -/
import Derived.Test.YteeopgpgbdhmhaaSc
namespace Go.Proofs.Yteeopgpgbdhmhaa
open Go.RowKit
set_option linter.unusedVariables false
set_option linter.unusedSimpArgs false
attribute [local irreducible] wpList wpO H wpQuiet wpStill Code.wp Exit.then Exit.inBlock bodyPost Code.rounds Calls valid sameKey conflict lessV hless num between

theorem list23 {b : List UInt8} (h : b.length = 23) : ∃ b0 b1 b2 b3 b4 b5 b6 b7 b8 b9 b10 b11 b12 b13 b14 b15 b16 b17 b18 b19 b20 b21 b22, b = [b0, b1, b2, b3, b4, b5, b6, b7, b8, b9, b10, b11, b12, b13, b14, b15, b16, b17, b18, b19, b20, b21, b22] := by
  rcases b with _ | ⟨b0, _ | ⟨b1, _ | ⟨b2, _ | ⟨b3, _ | ⟨b4, _ | ⟨b5, _ | ⟨b6, _ | ⟨b7, _ | ⟨b8, _ | ⟨b9, _ | ⟨b10, _ | ⟨b11, _ | ⟨b12, _ | ⟨b13, _ | ⟨b14, _ | ⟨b15, _ | ⟨b16, _ | ⟨b17, _ | ⟨b18, _ | ⟨b19, _ | ⟨b20, _ | ⟨b21, _ | ⟨b22, _ | ⟨z, t⟩⟩⟩⟩⟩⟩⟩⟩⟩⟩⟩⟩⟩⟩⟩⟩⟩⟩⟩⟩⟩⟩⟩⟩
  all_goals first | exact ⟨_, _, _, _, _, _, _, _, _, _, _, _, _, _, _, _, _, _, _, _, _, _, _, rfl⟩ | (simp at h; try omega)
-- forkledger/codec.follow
set_option maxRecDepth 4000 in
set_option maxHeartbeats 1000000 in
theorem c115 (v : Value) (b : List UInt8) (i j : Int) (w : World) (h : Bs w v b) : Calls Try.prog 115 [v, i64 i, i64 j].toArray w (Ret w (.bool (decide (i ≥ 0) && decide (i ≤ (b.length : Int)) && decide (j ≤ IntKind.wrap .i64 ((b.length : Int) - i))))) := by
  refine enter Try.func115 Try.ntmps115 rfl rfl ?_
  have hE := Ext.refl w
  refine wp_seq ?_
  refine W_region ?_
  refine L (D_v (R_assign rfl) ?_)
  refine S_nil ?_
  refine T_tn ?_
  refine wp_seq ?_
  refine W_region ?_
  refine L (D_v (R_move rfl) ?_)
  refine L (D_v (R_geqI rfl rfl) ?_)
  refine L (D_v (R_move rfl) ?_)
  refine L (D_g1 rfl rfl (fun hb => R_move rfl) ?_)
  refine L (D_g1 rfl rfl (fun hb => R_move rfl) ?_)
  refine L (D_g1 rfl rfl (fun hb => R_len Try.underlying31 (cgE hb) (h.ext hE)) ?_)
  refine L (D_g1 rfl rfl (fun hb => R_leqI (cgE hb) (cgE hb)) ?_)
  refine L (D_v (R_pickA rfl rfl rfl) ?_)
  refine L (D_v (R_move rfl) ?_)
  refine L (D_g1 rfl rfl (fun hb => R_move rfl) ?_)
  refine L (D_g1 rfl rfl (fun hb => R_move rfl) ?_)
  refine L (D_g1 rfl rfl (fun hb => R_len Try.underlying31 (cgE hb) (h.ext hE)) ?_)
  refine L (D_g1 rfl rfl (fun hb => R_move rfl) ?_)
  refine L (D_g1 rfl rfl (fun hb => R_subI (cgE hb) (cgE hb)) ?_)
  refine L (D_g1 rfl rfl (fun hb => R_leqI (cgE hb) (cgE hb)) ?_)
  refine L (D_v (R_pickA rfl rfl rfl) ?_)
  refine L (D_v (R_assign rfl) ?_)
  refine S_nil ?_
  refine T_tn ?_
  refine wp_ret ?_
  refine ret1 (v := .bool _) rfl rfl ⟨congrArg (fun b => Ending.returned (Value.bool b)) ?_, hE⟩
  rfl

-- forkledger/codec.Uint
set_option maxRecDepth 4000 in
set_option maxHeartbeats 1000000 in
theorem c89 (v : Value) (b0 b1 b2 b3 b4 b5 b6 b7 b8 b9 b10 b11 b12 b13 b14 b15 b16 b17 b18 b19 b20 b21 b22 : UInt8) (i j : Int) (w : World) (h : Bs w v [b0, b1, b2, b3, b4, b5, b6, b7, b8, b9, b10, b11, b12, b13, b14, b15, b16, b17, b18, b19, b20, b21, b22]) (hi : i = 5) (hj : j = 2) : Calls Try.prog 89 [v, i64 i, i64 j].toArray w (Ret w (.tuple #[.int .u64 (shU (shU 0 b5) b6), .bool true])) := by
  refine enter Try.func89 Try.ntmps89 rfl rfl ?_
  have hE := Ext.refl w
  refine wp_seq ?_
  refine W_region ?_
  refine L (D_v (R_assign rfl) ?_)
  refine L (D_v (R_assign rfl) ?_)
  refine S_nil ?_
  refine T_tn ?_
  refine wp_seq ?_
  refine wp_seq ?_
  refine W_region ?_
  refine L (D_v (R_move rfl) ?_)
  refine L (D_v (R_lssI rfl rfl) ?_)
  refine L (D_v (R_move rfl) ?_)
  refine L (D_g1 rfl rfl (fun hb => R_move rfl) ?_)
  refine L (D_g1 rfl rfl (fun hb => R_gtrI (cgE hb) rfl) ?_)
  refine L (D_v (R_pickO rfl rfl rfl) ?_)
  refine L (D_v (R_move rfl) ?_)
  refine L (D_g1 rfl rfl (fun hb => R_move rfl) ?_)
  refine L (D_g1 rfl rfl (fun hb => R_move rfl) ?_)
  refine L (D_g1 rfl rfl (fun hb => R_move rfl) ?_)
  refine L (D_gc1 rfl rfl (fun hb => R_callF Try.call115 (mapv3 (cgE hb) (cgE hb) (cgE hb)) rfl) (fun hb => c115 v [b0, b1, b2, b3, b4, b5, b6, b7, b8, b9, b10, b11, b12, b13, b14, b15, b16, b17, b18, b19, b20, b21, b22] _ _ _ (h.ext hE)) (fun w1 e1 => ?_))
  replace hE := hE.trans e1
  refine L (D_g1 rfl rfl (fun hb => R_not (cgE hb)) ?_)
  refine L (D_v (R_pickO rfl rfl rfl) ?_)
  refine S_nil ?_
  refine T_tn ?_
  refine W_if rfl (fun c2 => ?_) (fun c2 => ?_)
  ·
    subst hi hj
    exact absurd (show false = true from c2) (by decide)
  ·
    subst hi hj
    refine wp_skip ?_
    refine T_tn ?_
    refine wp_seq ?_
    refine W_region ?_
    refine L (D_v (R_assign rfl) ?_)
    refine S_nil ?_
    refine T_tn ?_
    refine wp_seq ?_
    refine wp_seq ?_
    refine W_region ?_
    refine L (D_v (R_move rfl) ?_)
    refine L (D_v (R_move rfl) ?_)
    refine L (D_v (R_move rfl) ?_)
    refine L (D_v (R_move rfl) ?_)
    refine L (D_v (R_cast (v' := .int .i64 (7)) (R_addI rfl rfl) rfl) ?_)
    refine L (D_v (R_sliceLH (i := 5) (j := 7) Try.underlying31 Try.sizeOf5 rfl rfl rfl (h.ext hE) (Nat.le_of_ble_eq_true rfl) (Nat.le_of_ble_eq_true rfl)) ?_)
    refine L (D_v (R_cast (v' := i64 (2)) (R_len Try.underlying31 rfl ((h.ext hE).cut (Nat.le_of_ble_eq_true rfl) (Nat.le_of_ble_eq_true rfl))) rfl) ?_)
    refine L (D_v (R_move rfl) ?_)
    refine S_nil ?_
    refine T_tn ?_
    refine wp_block ?_
    refine W_unroll 2 ?_
    refine W_round ?_
    refine wp_seq ?_
    refine W_region ?_
    refine L (D_v (R_cast (v' := .bool true) (R_lssI rfl rfl) rfl) ?_)
    refine S_nil ?_
    refine T_tn ?_
    refine wp_seq ?_
    refine W_ift rfl ?_
    refine wp_skip ?_
    refine T_tn ?_
    refine wp_seq ?_
    refine wp_block ?_
    refine wp_seq ?_
    refine W_region ?_
    refine L (D_v (R_elAddr (i := 0) Try.underlying31 Try.sizeOf5 rfl rfl ((h.ext hE).cut (Nat.le_of_ble_eq_true rfl) (Nat.le_of_ble_eq_true rfl)) (Nat.le_of_ble_eq_true rfl)) ?_)
    refine L (D_v (R_loadEl (u := u8 (b5)) Try.isAgg5 rfl ((h.ext hE).cut (Nat.le_of_ble_eq_true rfl) (Nat.le_of_ble_eq_true rfl)) rfl) ?_)
    refine L (D_v (R_assign rfl) ?_)
    refine S_nil ?_
    refine T_tn ?_
    refine W_region ?_
    refine L (D_v (R_move rfl) ?_)
    refine L (D_v (R_shlC (z := 8) rfl rfl (by decide) (by decide)) ?_)
    refine L (D_v (R_move rfl) ?_)
    refine L (D_v (R_convU (b := b5) Try.runUnderlying36 (by decide) rfl) ?_)
    refine L (D_v (R_orI rfl rfl) ?_)
    refine L (D_v (R_assign rfl) ?_)
    refine S_nil ?_
    refine T_bn ?_
    refine T_tn ?_
    refine W_region ?_
    refine L (D_v (R_cast (v' := .int .i64 (1)) (R_addI rfl rfl) rfl) ?_)
    refine L (D_v (R_move rfl) ?_)
    refine S_nil ?_
    refine T_tn ?_
    refine W_round ?_
    refine wp_seq ?_
    refine W_region ?_
    refine L (D_v (R_cast (v' := .bool true) (R_lssI rfl rfl) rfl) ?_)
    refine S_nil ?_
    refine T_tn ?_
    refine wp_seq ?_
    refine W_ift rfl ?_
    refine wp_skip ?_
    refine T_tn ?_
    refine wp_seq ?_
    refine wp_block ?_
    refine wp_seq ?_
    refine W_region ?_
    refine L (D_v (R_elAddr (i := 1) Try.underlying31 Try.sizeOf5 rfl rfl ((h.ext hE).cut (Nat.le_of_ble_eq_true rfl) (Nat.le_of_ble_eq_true rfl)) (Nat.le_of_ble_eq_true rfl)) ?_)
    refine L (D_v (R_loadEl (u := u8 (b6)) Try.isAgg5 rfl ((h.ext hE).cut (Nat.le_of_ble_eq_true rfl) (Nat.le_of_ble_eq_true rfl)) rfl) ?_)
    refine L (D_v (R_assign rfl) ?_)
    refine S_nil ?_
    refine T_tn ?_
    refine W_region ?_
    refine L (D_v (R_move rfl) ?_)
    refine L (D_v (R_shlC (z := 8) rfl rfl (by decide) (by decide)) ?_)
    refine L (D_v (R_move rfl) ?_)
    refine L (D_v (R_convU (b := b6) Try.runUnderlying36 (by decide) rfl) ?_)
    refine L (D_v (R_orI rfl rfl) ?_)
    refine L (D_v (R_assign rfl) ?_)
    refine S_nil ?_
    refine T_bn ?_
    refine T_tn ?_
    refine W_region ?_
    refine L (D_v (R_cast (v' := .int .i64 (2)) (R_addI rfl rfl) rfl) ?_)
    refine L (D_v (R_move rfl) ?_)
    refine S_nil ?_
    refine T_tn ?_
    refine W_round ?_
    refine wp_seq ?_
    refine W_region ?_
    refine L (D_v (R_cast (v' := .bool false) (R_lssI rfl rfl) rfl) ?_)
    refine S_nil ?_
    refine T_tn ?_
    refine wp_seq ?_
    refine W_iff rfl ?_
    refine wp_exit ?_
    refine T_te ?_
    refine T_te ?_
    refine T_be ?_
    refine T_tn ?_
    refine wp_seq ?_
    refine W_region ?_
    refine L (D_v (R_move rfl) ?_)
    refine L (D_v (R_assign rfl) ?_)
    refine L (D_v (R_assign rfl) ?_)
    refine S_nil ?_
    refine T_tn ?_
    refine wp_ret ?_
    refine ret2 (v := .int _ _) (v2 := .bool _) rfl rfl rfl ⟨?_, hE⟩
    rfl

-- forkledger/vote.Decode
set_option maxRecDepth 4000 in
set_option maxHeartbeats 1000000 in
theorem c40_ne (v : Value) (b : List UInt8) (w : World) (h : Bs w v b) (hne : b.length ≠ 23) : Calls Try.prog 40 [v].toArray w (Ret w (.tuple #[(dec (b)).1.v, i64 (dec (b)).2])) := by
  refine enter Try.func40 Try.ntmps40 rfl rfl ?_
  have hE := Ext.refl w
  refine wp_seq ?_
  refine W_region ?_
  refine L (D_alloc (c := (Vt.zero).l) Try.zeroValue26 rfl (fun aB1 w1 e1 gB1 hB1 => ?_))
  have lB1 := Nat.le_trans hE.size gB1
  replace hE := hE.trans e1
  refine L (D_v (R_assign rfl) ?_)
  refine S_nil ?_
  refine T_tn ?_
  refine wp_seq ?_
  refine wp_block ?_
  refine wp_seq ?_
  refine W_region ?_
  refine L (D_v (R_move rfl) ?_)
  refine L (D_v (R_len Try.underlying31 rfl (h.ext hE)) ?_)
  refine L (D_v (R_lssI rfl rfl) ?_)
  refine L (D_v (R_assign rfl) ?_)
  refine S_nil ?_
  refine T_tn ?_
  refine W_if rfl (fun c2 => ?_) (fun c2 => ?_)
  ·
    have hc := c2
    refine wp_seq ?_
    refine W_region ?_
    refine L (D_v (R_buildS (c := Vt.zero.l) Try.runUnderlying26 places26 Try.zeroValue26 rfl rfl) ?_)
    refine L (D_storeA Try.sizeOf26 hB1 rfl rfl rfl rfl rfl (l' := (Vt.zero).l) rfl (fun w2 k3 hB1 => ?_))
    replace hE := hE.kp k3 lB1
    refine L (D_v (R_assign rfl) ?_)
    refine S_nil ?_
    refine T_tn ?_
    refine wp_ret ?_
    refine T_br ?_
    refine T_tr ?_
    refine retct (c := (Vt.zero).l) (v2 := i64 (2)) rfl rfl rfl Try.isAgg26 Try.sizeOf26 hB1 rfl rfl ⟨?_, hE⟩
    simp at hc; (first | (have he : dec b = (Vt.zero, 2) := by (unfold dec; rw [if_pos (by omega)])) | (have he : dec b = (Vt.zero, 3) := by (unfold dec; rw [if_neg (by omega), if_pos (by omega)]))); rw [he]; rfl
  ·
    have hc := c2
    refine wp_seq ?_
    refine W_region ?_
    refine L (D_v (R_move rfl) ?_)
    refine L (D_v (R_len Try.underlying31 rfl (h.ext hE)) ?_)
    refine L (D_v (R_gtrI rfl rfl) ?_)
    refine L (D_v (R_assign rfl) ?_)
    refine S_nil ?_
    refine T_tn ?_
    refine W_if rfl (fun c4 => ?_) (fun c4 => ?_)
    ·
      have hc := c4
      refine wp_seq ?_
      refine W_region ?_
      refine L (D_v (R_buildS (c := Vt.zero.l) Try.runUnderlying26 places26 Try.zeroValue26 rfl rfl) ?_)
      refine L (D_storeA Try.sizeOf26 hB1 rfl rfl rfl rfl rfl (l' := (Vt.zero).l) rfl (fun w3 k5 hB1 => ?_))
      replace hE := hE.kp k5 lB1
      refine L (D_v (R_assign rfl) ?_)
      refine S_nil ?_
      refine T_tn ?_
      refine wp_ret ?_
      refine T_br ?_
      refine T_tr ?_
      refine retct (c := (Vt.zero).l) (v2 := i64 (3)) rfl rfl rfl Try.isAgg26 Try.sizeOf26 hB1 rfl rfl ⟨?_, hE⟩
      simp at hc; (first | (have he : dec b = (Vt.zero, 2) := by (unfold dec; rw [if_pos (by omega)])) | (have he : dec b = (Vt.zero, 3) := by (unfold dec; rw [if_neg (by omega), if_pos (by omega)]))); rw [he]; rfl
    ·
      exfalso; simp at c2 c4; omega

-- forkledger/vote.Decode
set_option maxRecDepth 4000 in
set_option maxHeartbeats 4000000 in
theorem c40_23 (v : Value) (b0 b1 b2 b3 b4 b5 b6 b7 b8 b9 b10 b11 b12 b13 b14 b15 b16 b17 b18 b19 b20 b21 b22 : UInt8) (w : World) (h : Bs w v [b0, b1, b2, b3, b4, b5, b6, b7, b8, b9, b10, b11, b12, b13, b14, b15, b16, b17, b18, b19, b20, b21, b22]) : Calls Try.prog 40 [v].toArray w (Ret w (.tuple #[(dec ([b0, b1, b2, b3, b4, b5, b6, b7, b8, b9, b10, b11, b12, b13, b14, b15, b16, b17, b18, b19, b20, b21, b22])).1.v, i64 (dec ([b0, b1, b2, b3, b4, b5, b6, b7, b8, b9, b10, b11, b12, b13, b14, b15, b16, b17, b18, b19, b20, b21, b22])).2])) := by
  refine enter Try.func40 Try.ntmps40 rfl rfl ?_
  have hE := Ext.refl w
  refine wp_seq ?_
  refine W_region ?_
  refine L (D_alloc (c := (Vt.zero).l) Try.zeroValue26 rfl (fun aB1 w1 e1 gB1 hB1 => ?_))
  have lB1 := Nat.le_trans hE.size gB1
  replace hE := hE.trans e1
  refine L (D_v (R_assign rfl) ?_)
  refine S_nil ?_
  refine T_tn ?_
  refine wp_seq ?_
  refine wp_block ?_
  refine wp_seq ?_
  refine W_region ?_
  refine L (D_v (R_move rfl) ?_)
  refine L (D_v (R_cast (v' := i64 (23)) (R_len Try.underlying31 rfl (h.ext hE)) rfl) ?_)
  refine L (D_v (R_cast (v' := .bool false) (R_lssI rfl rfl) rfl) ?_)
  refine L (D_v (R_assign rfl) ?_)
  refine S_nil ?_
  refine T_tn ?_
  refine W_iff rfl ?_
  refine wp_seq ?_
  refine W_region ?_
  refine L (D_v (R_move rfl) ?_)
  refine L (D_v (R_cast (v' := i64 (23)) (R_len Try.underlying31 rfl (h.ext hE)) rfl) ?_)
  refine L (D_v (R_cast (v' := .bool false) (R_gtrI rfl rfl) rfl) ?_)
  refine L (D_v (R_assign rfl) ?_)
  refine S_nil ?_
  refine T_tn ?_
  refine W_iff rfl ?_
  refine wp_skip ?_
  refine T_bn ?_
  refine T_tn ?_
  refine wp_seq ?_
  refine W_region ?_
  refine L (D_v (R_move rfl) ?_)
  refine L (D_call (R_callF Try.call89 rfl rfl) (c89 v b0 b1 b2 b3 b4 b5 b6 b7 b8 b9 b10 b11 b12 b13 b14 b15 b16 b17 b18 b19 b20 b21 b22 5 2 _ (h.ext hE) rfl rfl) (fun w2 e2 => ?_))
  replace hE := hE.trans e2
  replace hB1 := hB1.ext e2
  refine L (D_v (R_move rfl) ?_)
  refine L (D_v (R_extract rfl rfl) ?_)
  refine L (D_v (R_extract rfl rfl) ?_)
  refine L (D_v (R_assign rfl) ?_)
  refine L (D_v (R_assign rfl) ?_)
  refine S_nil ?_
  refine T_tn ?_
  refine wp_seq ?_
  refine W_held (fun W => Ext w W ∧ Blk W aB1 (Vt.zero).l 26 ∧ True) mixed (fun w3 e3 => ?_)
  replace hE := hE.trans e3
  replace hB1 := hB1.ext e3
  refine H_take (i := 0) rfl (by kernel_rfl) (by kernel_rfl) (by kernel_rfl) rfl (pq_then pq_body) ⟨hE, hB1, trivial⟩ rfl (fun w hw => R_move rfl) ?_
  refine H_take (i := 1) rfl (by kernel_rfl) (by kernel_rfl) (by kernel_rfl) rfl (pq_then pq_body) ⟨hE, hB1, trivial⟩ rfl (fun w hw => R_elAddr (i := 0) Try.underlying31 Try.sizeOf5 rfl rfl (h.ext hw.1) (Nat.le_of_ble_eq_true rfl)) ?_
  refine H_take (i := 2) rfl (by kernel_rfl) (by kernel_rfl) (by kernel_rfl) rfl (pq_then pq_body) ⟨hE, hB1, trivial⟩ rfl (fun w hw => R_loadEl (u := u8 (b0)) Try.isAgg5 rfl (h.ext hw.1) rfl) ?_
  refine H_take (i := 3) rfl (by kernel_rfl) (by kernel_rfl) (by kernel_rfl) rfl (pq_then pq_body) ⟨hE, hB1, trivial⟩ rfl (fun w hw => R_convU (b := b0) Try.runUnderlying3 (by decide) rfl) ?_
  refine H_take (i := 4) rfl (by kernel_rfl) (by kernel_rfl) (by kernel_rfl) rfl (pq_then pq_body) ⟨hE, hB1, trivial⟩ rfl (fun w hw => R_move rfl) ?_
  refine H_take (i := 5) rfl (by kernel_rfl) (by kernel_rfl) (by kernel_rfl) rfl (pq_then pq_body) ⟨hE, hB1, trivial⟩ rfl (fun w hw => R_elAddr (i := 1) Try.underlying31 Try.sizeOf5 rfl rfl (h.ext hw.1) (Nat.le_of_ble_eq_true rfl)) ?_
  refine H_take (i := 6) rfl (by kernel_rfl) (by kernel_rfl) (by kernel_rfl) rfl (pq_then pq_body) ⟨hE, hB1, trivial⟩ rfl (fun w hw => R_loadEl (u := u8 (b1)) Try.isAgg5 rfl (h.ext hw.1) rfl) ?_
  refine H_take (i := 7) rfl (by kernel_rfl) (by kernel_rfl) (by kernel_rfl) rfl (pq_then pq_body) ⟨hE, hB1, trivial⟩ rfl (fun w hw => R_convU (b := b1) Try.runUnderlying3 (by decide) rfl) ?_
  refine H_take (i := 8) rfl (by kernel_rfl) (by kernel_rfl) (by kernel_rfl) rfl (pq_then pq_body) ⟨hE, hB1, trivial⟩ rfl (fun w hw => R_move rfl) ?_
  refine H_take (i := 9) rfl (by kernel_rfl) (by kernel_rfl) (by kernel_rfl) rfl (pq_then pq_body) ⟨hE, hB1, trivial⟩ rfl (fun w hw => R_elAddr (i := 2) Try.underlying31 Try.sizeOf5 rfl rfl (h.ext hw.1) (Nat.le_of_ble_eq_true rfl)) ?_
  refine H_take (i := 10) rfl (by kernel_rfl) (by kernel_rfl) (by kernel_rfl) rfl (pq_then pq_body) ⟨hE, hB1, trivial⟩ rfl (fun w hw => R_loadEl (u := u8 (b2)) Try.isAgg5 rfl (h.ext hw.1) rfl) ?_
  refine H_take (i := 11) rfl (by kernel_rfl) (by kernel_rfl) (by kernel_rfl) rfl (pq_then pq_body) ⟨hE, hB1, trivial⟩ rfl (fun w hw => R_convU (b := b2) Try.runUnderlying3 (by decide) rfl) ?_
  refine H_take (i := 12) rfl (by kernel_rfl) (by kernel_rfl) (by kernel_rfl) rfl (pq_then pq_body) ⟨hE, hB1, trivial⟩ rfl (fun w hw => R_move rfl) ?_
  refine H_take (i := 13) rfl (by kernel_rfl) (by kernel_rfl) (by kernel_rfl) rfl (pq_then pq_body) ⟨hE, hB1, trivial⟩ rfl (fun w hw => R_elAddr (i := 3) Try.underlying31 Try.sizeOf5 rfl rfl (h.ext hw.1) (Nat.le_of_ble_eq_true rfl)) ?_
  refine H_take (i := 14) rfl (by kernel_rfl) (by kernel_rfl) (by kernel_rfl) rfl (pq_then pq_body) ⟨hE, hB1, trivial⟩ rfl (fun w hw => R_loadEl (u := u8 (b3)) Try.isAgg5 rfl (h.ext hw.1) rfl) ?_
  refine H_take (i := 15) rfl (by kernel_rfl) (by kernel_rfl) (by kernel_rfl) rfl (pq_then pq_body) ⟨hE, hB1, trivial⟩ rfl (fun w hw => R_convU (b := b3) Try.runUnderlying3 (by decide) rfl) ?_
  refine H_take (i := 16) rfl (by kernel_rfl) (by kernel_rfl) (by kernel_rfl) rfl (pq_then pq_body) ⟨hE, hB1, trivial⟩ rfl (fun w hw => R_move rfl) ?_
  refine H_take (i := 17) rfl (by kernel_rfl) (by kernel_rfl) (by kernel_rfl) rfl (pq_then pq_body) ⟨hE, hB1, trivial⟩ rfl (fun w hw => R_elAddr (i := 4) Try.underlying31 Try.sizeOf5 rfl rfl (h.ext hw.1) (Nat.le_of_ble_eq_true rfl)) ?_
  refine H_take (i := 18) rfl (by kernel_rfl) (by kernel_rfl) (by kernel_rfl) rfl (pq_then pq_body) ⟨hE, hB1, trivial⟩ rfl (fun w hw => R_loadEl (u := u8 (b4)) Try.isAgg5 rfl (h.ext hw.1) rfl) ?_
  refine H_take (i := 19) rfl (by kernel_rfl) (by kernel_rfl) (by kernel_rfl) rfl (pq_then pq_body) ⟨hE, hB1, trivial⟩ rfl (fun w hw => R_convU (b := b4) Try.runUnderlying3 (by decide) rfl) ?_
  refine H_take (i := 20) rfl (by kernel_rfl) (by kernel_rfl) (by kernel_rfl) rfl (pq_then pq_body) ⟨hE, hB1, trivial⟩ rfl (fun w hw => R_move rfl) ?_
  refine H_take (i := 21) rfl (by kernel_rfl) (by kernel_rfl) (by kernel_rfl) rfl (pq_then pq_body) ⟨hE, hB1, trivial⟩ rfl (fun w hw => R_conv Try.runUnderlying36 Try.runUnderlying22 rfl) ?_
  refine H_take (i := 22) rfl (by kernel_rfl) (by kernel_rfl) (by kernel_rfl) rfl (pq_then pq_body) ⟨hE, hB1, trivial⟩ rfl (fun w hw => R_buildS (vs := [(0, i64 (b0.toNat : Int)), (1, i64 (b1.toNat : Int)), (2, i64 (b2.toNat : Int)), (3, i64 (b3.toNat : Int)), (4, i64 (b4.toNat : Int)), (5, i64 (IntKind.wrap .i64 (shU (shU 0 b5) b6)))]) (c := ((⟨(b0.toNat : Int), (b1.toNat : Int), (b2.toNat : Int), (b3.toNat : Int), (b4.toNat : Int), (IntKind.wrap .i64 (shU (shU 0 b5) b6)), Nm.zero, Nm.zero⟩ : Vt)).l) Try.runUnderlying26 places26 Try.zeroValue26 rfl (fill26 _ _ _ _ _ _)) ?_
  refine H_op (i := 23) (by kernel_rfl) rfl rfl (D_alloc (c := (Vt.zero).l) Try.zeroValue26 rfl (fun aB2 w4 e4 gB2 hB2 => ?_))
  have lB2 := Nat.le_trans hE.size gB2
  have nB1B2 := hB1.ne gB2
  replace hE := hE.trans e4
  replace hB1 := hB1.ext e4
  refine ⟨⟨hE, hB1, trivial⟩, ?_⟩
  refine H_op (i := 24) (by kernel_rfl) rfl rfl (D_storeA Try.sizeOf26 hB2 rfl rfl rfl rfl rfl (l' := ((⟨(b0.toNat : Int), (b1.toNat : Int), (b2.toNat : Int), (b3.toNat : Int), (b4.toNat : Int), (IntKind.wrap .i64 (shU (shU 0 b5) b6)), Nm.zero, Nm.zero⟩ : Vt)).l) rfl (fun w5 k5 hB2 => ?_))
  replace hE := hE.kp k5 lB2
  replace hB1 := hB1.kp k5 nB1B2
  refine ⟨⟨hE, hB1, trivial⟩, ?_⟩
  refine H_done (by kernel_rfl) ?_
  refine T_tn ?_
  refine wp_seq ?_
  refine W_tail 4 mixed (by kernel_rfl) (fun w6 e6 => ?_)
  replace hE := hE.trans e6
  replace hB1 := hB1.ext e6
  replace hB2 := hB2.ext e6
  refine T_v (R_fieldAddr Try.runUnderlying26 rfl Try.sizeOf24 rfl) ?_
  refine T_v (R_sliceArr (len := 7) Try.underlying24 Try.sizeOf5 rfl) ?_
  refine T_v (R_move rfl) ?_
  refine T_v (R_sliceLo (i := 7) Try.underlying31 Try.sizeOf5 rfl rfl (h.ext hE) (Nat.le_of_ble_eq_true rfl)) ?_
  refine T_nil ?_
  refine L (D_copyBlk (l' := ((⟨(b0.toNat : Int), (b1.toNat : Int), (b2.toNat : Int), (b3.toNat : Int), (b4.toNat : Int), (IntKind.wrap .i64 (shU (shU 0 b5) b6)), ⟨b7, b8, b9, b10, b11, b12, b13, b14⟩, Nm.zero⟩ : Vt)).l) Try.underlying31 Try.sizeOf5 rfl rfl hB2 rfl ((h.ext hE).cut (Nat.le_of_ble_eq_true rfl) (Nat.le_of_ble_eq_true rfl)) (bl_plain _) rfl (fun w7 k7 hB2 => ?_))
  replace hE := hE.kp k7 lB2
  replace hB1 := hB1.kp k7 nB1B2
  refine S_nil ?_
  refine T_tn ?_
  refine wp_seq ?_
  refine W_tail 4 mixed (by kernel_rfl) (fun w8 e8 => ?_)
  replace hE := hE.trans e8
  replace hB1 := hB1.ext e8
  replace hB2 := hB2.ext e8
  refine T_v (R_fieldAddr Try.runUnderlying26 rfl Try.sizeOf24 rfl) ?_
  refine T_v (R_sliceArr (len := 7) Try.underlying24 Try.sizeOf5 rfl) ?_
  refine T_v (R_move rfl) ?_
  refine T_v (R_sliceLo (i := 15) Try.underlying31 Try.sizeOf5 rfl rfl (h.ext hE) (Nat.le_of_ble_eq_true rfl)) ?_
  refine T_nil ?_
  refine L (D_copyBlk (l' := ((⟨(b0.toNat : Int), (b1.toNat : Int), (b2.toNat : Int), (b3.toNat : Int), (b4.toNat : Int), (IntKind.wrap .i64 (shU (shU 0 b5) b6)), ⟨b7, b8, b9, b10, b11, b12, b13, b14⟩, ⟨b15, b16, b17, b18, b19, b20, b21, b22⟩⟩ : Vt)).l) Try.underlying31 Try.sizeOf5 rfl rfl hB2 rfl ((h.ext hE).cut (Nat.le_of_ble_eq_true rfl) (Nat.le_of_ble_eq_true rfl)) (bl_plain _) rfl (fun w9 k9 hB2 => ?_))
  replace hE := hE.kp k9 lB2
  replace hB1 := hB1.kp k9 nB1B2
  refine S_nil ?_
  refine T_tn ?_
  refine wp_seq ?_
  refine wp_seq ?_
  refine W_region ?_
  refine L (D_v (R_loadA (c := ((⟨(b0.toNat : Int), (b1.toNat : Int), (b2.toNat : Int), (b3.toNat : Int), (b4.toNat : Int), (IntKind.wrap .i64 (shU (shU 0 b5) b6)), ⟨b7, b8, b9, b10, b11, b12, b13, b14⟩, ⟨b15, b16, b17, b18, b19, b20, b21, b22⟩⟩ : Vt)).l) Try.isAgg26 Try.sizeOf26 hB2 rfl rfl rfl) ?_)
  refine L (D_call (R_callF Try.call26 rfl rfl) (c26 ((⟨(b0.toNat : Int), (b1.toNat : Int), (b2.toNat : Int), (b3.toNat : Int), (b4.toNat : Int), (IntKind.wrap .i64 (shU (shU 0 b5) b6)), ⟨b7, b8, b9, b10, b11, b12, b13, b14⟩, ⟨b15, b16, b17, b18, b19, b20, b21, b22⟩⟩ : Vt)) _ ) (fun w10 e10 => ?_))
  replace hE := hE.trans e10
  replace hB1 := hB1.ext e10
  replace hB2 := hB2.ext e10
  refine L (D_v (R_not rfl) ?_)
  refine S_nil ?_
  refine T_tn ?_
  refine W_if rfl (fun c11 => ?_) (fun c11 => ?_)
  ·
    have hc := c11
    refine wp_seq ?_
    refine W_region ?_
    refine L (D_v (R_buildS (c := Vt.zero.l) Try.runUnderlying26 places26 Try.zeroValue26 rfl rfl) ?_)
    refine L (D_storeA Try.sizeOf26 hB1 rfl rfl rfl rfl rfl (l' := (Vt.zero).l) rfl (fun w11 k12 hB1 => ?_))
    replace hE := hE.kp k12 lB1
    replace hB2 := hB2.kp k12 nB1B2.symm
    refine L (D_v (R_assign rfl) ?_)
    refine S_nil ?_
    refine T_tn ?_
    refine wp_ret ?_
    refine T_tr ?_
    refine retct (c := (Vt.zero).l) (v2 := i64 (11)) rfl rfl rfl Try.isAgg26 Try.sizeOf26 hB1 rfl rfl ⟨?_, hE⟩
    simp at hc; (first | (have he : dec [b0, b1, b2, b3, b4, b5, b6, b7, b8, b9, b10, b11, b12, b13, b14, b15, b16, b17, b18, b19, b20, b21, b22] = (rawV [b0, b1, b2, b3, b4, b5, b6, b7, b8, b9, b10, b11, b12, b13, b14, b15, b16, b17, b18, b19, b20, b21, b22], 0) := by (unfold dec; rw [if_neg (by simp), if_neg (by simp), if_pos (show valid (rawV [b0, b1, b2, b3, b4, b5, b6, b7, b8, b9, b10, b11, b12, b13, b14, b15, b16, b17, b18, b19, b20, b21, b22]) = true from hc)])) | (have he : dec [b0, b1, b2, b3, b4, b5, b6, b7, b8, b9, b10, b11, b12, b13, b14, b15, b16, b17, b18, b19, b20, b21, b22] = (Vt.zero, 11) := by (unfold dec; rw [if_neg (by simp), if_neg (by simp), if_neg (show ¬ valid (rawV [b0, b1, b2, b3, b4, b5, b6, b7, b8, b9, b10, b11, b12, b13, b14, b15, b16, b17, b18, b19, b20, b21, b22]) = true by rw [show valid (rawV [b0, b1, b2, b3, b4, b5, b6, b7, b8, b9, b10, b11, b12, b13, b14, b15, b16, b17, b18, b19, b20, b21, b22]) = false from hc]; simp)]))); rw [he]; rfl
  ·
    have hc := c11
    refine wp_skip ?_
    refine T_tn ?_
    refine wp_seq ?_
    refine W_region ?_
    refine L (D_v (R_loadA (c := ((⟨(b0.toNat : Int), (b1.toNat : Int), (b2.toNat : Int), (b3.toNat : Int), (b4.toNat : Int), (IntKind.wrap .i64 (shU (shU 0 b5) b6)), ⟨b7, b8, b9, b10, b11, b12, b13, b14⟩, ⟨b15, b16, b17, b18, b19, b20, b21, b22⟩⟩ : Vt)).l) Try.isAgg26 Try.sizeOf26 hB2 rfl rfl rfl) ?_)
    refine L (D_storeA Try.sizeOf26 hB1 rfl rfl rfl rfl rfl (l' := ((⟨(b0.toNat : Int), (b1.toNat : Int), (b2.toNat : Int), (b3.toNat : Int), (b4.toNat : Int), (IntKind.wrap .i64 (shU (shU 0 b5) b6)), ⟨b7, b8, b9, b10, b11, b12, b13, b14⟩, ⟨b15, b16, b17, b18, b19, b20, b21, b22⟩⟩ : Vt)).l) rfl (fun w12 k13 hB1 => ?_))
    replace hE := hE.kp k13 lB1
    replace hB2 := hB2.kp k13 nB1B2.symm
    refine L (D_v (R_assign rfl) ?_)
    refine S_nil ?_
    refine T_tn ?_
    refine wp_ret ?_
    refine retct (c := ((⟨(b0.toNat : Int), (b1.toNat : Int), (b2.toNat : Int), (b3.toNat : Int), (b4.toNat : Int), (IntKind.wrap .i64 (shU (shU 0 b5) b6)), ⟨b7, b8, b9, b10, b11, b12, b13, b14⟩, ⟨b15, b16, b17, b18, b19, b20, b21, b22⟩⟩ : Vt)).l) (v2 := i64 (0)) rfl rfl rfl Try.isAgg26 Try.sizeOf26 hB1 rfl rfl ⟨?_, hE⟩
    simp at hc; (first | (have he : dec [b0, b1, b2, b3, b4, b5, b6, b7, b8, b9, b10, b11, b12, b13, b14, b15, b16, b17, b18, b19, b20, b21, b22] = (rawV [b0, b1, b2, b3, b4, b5, b6, b7, b8, b9, b10, b11, b12, b13, b14, b15, b16, b17, b18, b19, b20, b21, b22], 0) := by (unfold dec; rw [if_neg (by simp), if_neg (by simp), if_pos (show valid (rawV [b0, b1, b2, b3, b4, b5, b6, b7, b8, b9, b10, b11, b12, b13, b14, b15, b16, b17, b18, b19, b20, b21, b22]) = true from hc)])) | (have he : dec [b0, b1, b2, b3, b4, b5, b6, b7, b8, b9, b10, b11, b12, b13, b14, b15, b16, b17, b18, b19, b20, b21, b22] = (Vt.zero, 11) := by (unfold dec; rw [if_neg (by simp), if_neg (by simp), if_neg (show ¬ valid (rawV [b0, b1, b2, b3, b4, b5, b6, b7, b8, b9, b10, b11, b12, b13, b14, b15, b16, b17, b18, b19, b20, b21, b22]) = true by rw [show valid (rawV [b0, b1, b2, b3, b4, b5, b6, b7, b8, b9, b10, b11, b12, b13, b14, b15, b16, b17, b18, b19, b20, b21, b22]) = false from hc]; simp)]))); rw [he]; rfl

theorem c40 (v : Value) (b : List UInt8) (w : World) (h : Bs w v b) : Calls Try.prog 40 [v].toArray w (Ret w (.tuple #[(dec (b)).1.v, i64 (dec (b)).2])) := by
  by_cases hl : b.length = 23
  · obtain ⟨b0, b1, b2, b3, b4, b5, b6, b7, b8, b9, b10, b11, b12, b13, b14, b15, b16, b17, b18, b19, b20, b21, b22, rfl⟩ := list23 hl
    exact c40_23 v _ _ _ _ _ _ _ _ _ _ _ _ _ _ _ _ _ _ _ _ _ _ _ w h
  · exact c40_ne v b w h hl

-- forkledger/forkledgerref6.Decode
set_option maxRecDepth 4000 in
set_option maxHeartbeats 1000000 in
theorem c41_ne (v : Value) (b : List UInt8) (w : World) (h : Bs w v b) (hne : b.length ≠ 23) : Calls Try.prog 41 [v].toArray w (Ret w (.tuple #[(dec (b)).1.v, i64 (dec (b)).2])) := by
  refine enter Try.func41 Try.ntmps41 rfl rfl ?_
  have hE := Ext.refl w
  refine wp_seq ?_
  refine W_region ?_
  refine L (D_alloc (c := (Vt.zero).l) Try.zeroValue26 rfl (fun aB1 w1 e1 gB1 hB1 => ?_))
  have lB1 := Nat.le_trans hE.size gB1
  replace hE := hE.trans e1
  refine L (D_v (R_assign rfl) ?_)
  refine S_nil ?_
  refine T_tn ?_
  refine wp_seq ?_
  refine wp_seq ?_
  refine W_region ?_
  refine L (D_v (R_move rfl) ?_)
  refine L (D_v (R_len Try.underlying31 rfl (h.ext hE)) ?_)
  refine L (D_v (R_lssI rfl rfl) ?_)
  refine S_nil ?_
  refine T_tn ?_
  refine W_if rfl (fun c2 => ?_) (fun c2 => ?_)
  ·
    have hc := c2
    refine wp_seq ?_
    refine W_region ?_
    refine L (D_v (R_buildS (c := Vt.zero.l) Try.runUnderlying26 places26 Try.zeroValue26 rfl rfl) ?_)
    refine L (D_storeA Try.sizeOf26 hB1 rfl rfl rfl rfl rfl (l' := (Vt.zero).l) rfl (fun w2 k3 hB1 => ?_))
    replace hE := hE.kp k3 lB1
    refine L (D_v (R_assign rfl) ?_)
    refine S_nil ?_
    refine T_tn ?_
    refine wp_ret ?_
    refine T_tr ?_
    refine retct (c := (Vt.zero).l) (v2 := i64 (2)) rfl rfl rfl Try.isAgg26 Try.sizeOf26 hB1 rfl rfl ⟨?_, hE⟩
    simp at hc; (first | (have he : dec b = (Vt.zero, 2) := by (unfold dec; rw [if_pos (by omega)])) | (have he : dec b = (Vt.zero, 3) := by (unfold dec; rw [if_neg (by omega), if_pos (by omega)]))); rw [he]; rfl
  ·
    have hc := c2
    refine wp_skip ?_
    refine T_tn ?_
    refine wp_seq ?_
    refine wp_seq ?_
    refine W_region ?_
    refine L (D_v (R_move rfl) ?_)
    refine L (D_v (R_len Try.underlying31 rfl (h.ext hE)) ?_)
    refine L (D_v (R_gtrI rfl rfl) ?_)
    refine S_nil ?_
    refine T_tn ?_
    refine W_if rfl (fun c4 => ?_) (fun c4 => ?_)
    ·
      have hc := c4
      refine wp_seq ?_
      refine W_region ?_
      refine L (D_v (R_buildS (c := Vt.zero.l) Try.runUnderlying26 places26 Try.zeroValue26 rfl rfl) ?_)
      refine L (D_storeA Try.sizeOf26 hB1 rfl rfl rfl rfl rfl (l' := (Vt.zero).l) rfl (fun w3 k5 hB1 => ?_))
      replace hE := hE.kp k5 lB1
      refine L (D_v (R_assign rfl) ?_)
      refine S_nil ?_
      refine T_tn ?_
      refine wp_ret ?_
      refine T_tr ?_
      refine retct (c := (Vt.zero).l) (v2 := i64 (3)) rfl rfl rfl Try.isAgg26 Try.sizeOf26 hB1 rfl rfl ⟨?_, hE⟩
      simp at hc; (first | (have he : dec b = (Vt.zero, 2) := by (unfold dec; rw [if_pos (by omega)])) | (have he : dec b = (Vt.zero, 3) := by (unfold dec; rw [if_neg (by omega), if_pos (by omega)]))); rw [he]; rfl
    ·
      exfalso; simp at c2 c4; omega

-- forkledger/forkledgerref6.Decode
set_option maxRecDepth 4000 in
set_option maxHeartbeats 4000000 in
theorem c41_23 (v : Value) (b0 b1 b2 b3 b4 b5 b6 b7 b8 b9 b10 b11 b12 b13 b14 b15 b16 b17 b18 b19 b20 b21 b22 : UInt8) (w : World) (h : Bs w v [b0, b1, b2, b3, b4, b5, b6, b7, b8, b9, b10, b11, b12, b13, b14, b15, b16, b17, b18, b19, b20, b21, b22]) : Calls Try.prog 41 [v].toArray w (Ret w (.tuple #[(dec ([b0, b1, b2, b3, b4, b5, b6, b7, b8, b9, b10, b11, b12, b13, b14, b15, b16, b17, b18, b19, b20, b21, b22])).1.v, i64 (dec ([b0, b1, b2, b3, b4, b5, b6, b7, b8, b9, b10, b11, b12, b13, b14, b15, b16, b17, b18, b19, b20, b21, b22])).2])) := by
  refine enter Try.func41 Try.ntmps41 rfl rfl ?_
  have hE := Ext.refl w
  refine wp_seq ?_
  refine W_region ?_
  refine L (D_alloc (c := (Vt.zero).l) Try.zeroValue26 rfl (fun aB1 w1 e1 gB1 hB1 => ?_))
  have lB1 := Nat.le_trans hE.size gB1
  replace hE := hE.trans e1
  refine L (D_v (R_assign rfl) ?_)
  refine S_nil ?_
  refine T_tn ?_
  refine wp_seq ?_
  refine wp_seq ?_
  refine W_region ?_
  refine L (D_v (R_move rfl) ?_)
  refine L (D_v (R_cast (v' := i64 (23)) (R_len Try.underlying31 rfl (h.ext hE)) rfl) ?_)
  refine L (D_v (R_cast (v' := .bool false) (R_lssI rfl rfl) rfl) ?_)
  refine S_nil ?_
  refine T_tn ?_
  refine W_iff rfl ?_
  refine wp_skip ?_
  refine T_tn ?_
  refine wp_seq ?_
  refine wp_seq ?_
  refine W_region ?_
  refine L (D_v (R_move rfl) ?_)
  refine L (D_v (R_cast (v' := i64 (23)) (R_len Try.underlying31 rfl (h.ext hE)) rfl) ?_)
  refine L (D_v (R_cast (v' := .bool false) (R_gtrI rfl rfl) rfl) ?_)
  refine S_nil ?_
  refine T_tn ?_
  refine W_iff rfl ?_
  refine wp_skip ?_
  refine T_tn ?_
  refine wp_seq ?_
  refine W_held (fun W => Ext w W ∧ Blk W aB1 (Vt.zero).l 26 ∧ True) mixed (fun w2 e2 => ?_)
  replace hE := hE.trans e2
  replace hB1 := hB1.ext e2
  refine H_take (i := 0) rfl (by kernel_rfl) (by kernel_rfl) (by kernel_rfl) rfl (pq_then pq_body) ⟨hE, hB1, trivial⟩ rfl (fun w hw => R_move rfl) ?_
  refine H_take (i := 1) rfl (by kernel_rfl) (by kernel_rfl) (by kernel_rfl) rfl (pq_then pq_body) ⟨hE, hB1, trivial⟩ rfl (fun w hw => R_elAddr (i := 0) Try.underlying31 Try.sizeOf5 rfl rfl (h.ext hw.1) (Nat.le_of_ble_eq_true rfl)) ?_
  refine H_take (i := 2) rfl (by kernel_rfl) (by kernel_rfl) (by kernel_rfl) rfl (pq_then pq_body) ⟨hE, hB1, trivial⟩ rfl (fun w hw => R_loadEl (u := u8 (b0)) Try.isAgg5 rfl (h.ext hw.1) rfl) ?_
  refine H_take (i := 3) rfl (by kernel_rfl) (by kernel_rfl) (by kernel_rfl) rfl (pq_then pq_body) ⟨hE, hB1, trivial⟩ rfl (fun w hw => R_convU (b := b0) Try.runUnderlying3 (by decide) rfl) ?_
  refine H_take (i := 4) rfl (by kernel_rfl) (by kernel_rfl) (by kernel_rfl) rfl (pq_then pq_body) ⟨hE, hB1, trivial⟩ rfl (fun w hw => R_move rfl) ?_
  refine H_take (i := 5) rfl (by kernel_rfl) (by kernel_rfl) (by kernel_rfl) rfl (pq_then pq_body) ⟨hE, hB1, trivial⟩ rfl (fun w hw => R_elAddr (i := 1) Try.underlying31 Try.sizeOf5 rfl rfl (h.ext hw.1) (Nat.le_of_ble_eq_true rfl)) ?_
  refine H_take (i := 6) rfl (by kernel_rfl) (by kernel_rfl) (by kernel_rfl) rfl (pq_then pq_body) ⟨hE, hB1, trivial⟩ rfl (fun w hw => R_loadEl (u := u8 (b1)) Try.isAgg5 rfl (h.ext hw.1) rfl) ?_
  refine H_take (i := 7) rfl (by kernel_rfl) (by kernel_rfl) (by kernel_rfl) rfl (pq_then pq_body) ⟨hE, hB1, trivial⟩ rfl (fun w hw => R_convU (b := b1) Try.runUnderlying3 (by decide) rfl) ?_
  refine H_take (i := 8) rfl (by kernel_rfl) (by kernel_rfl) (by kernel_rfl) rfl (pq_then pq_body) ⟨hE, hB1, trivial⟩ rfl (fun w hw => R_move rfl) ?_
  refine H_take (i := 9) rfl (by kernel_rfl) (by kernel_rfl) (by kernel_rfl) rfl (pq_then pq_body) ⟨hE, hB1, trivial⟩ rfl (fun w hw => R_elAddr (i := 2) Try.underlying31 Try.sizeOf5 rfl rfl (h.ext hw.1) (Nat.le_of_ble_eq_true rfl)) ?_
  refine H_take (i := 10) rfl (by kernel_rfl) (by kernel_rfl) (by kernel_rfl) rfl (pq_then pq_body) ⟨hE, hB1, trivial⟩ rfl (fun w hw => R_loadEl (u := u8 (b2)) Try.isAgg5 rfl (h.ext hw.1) rfl) ?_
  refine H_take (i := 11) rfl (by kernel_rfl) (by kernel_rfl) (by kernel_rfl) rfl (pq_then pq_body) ⟨hE, hB1, trivial⟩ rfl (fun w hw => R_convU (b := b2) Try.runUnderlying3 (by decide) rfl) ?_
  refine H_take (i := 12) rfl (by kernel_rfl) (by kernel_rfl) (by kernel_rfl) rfl (pq_then pq_body) ⟨hE, hB1, trivial⟩ rfl (fun w hw => R_move rfl) ?_
  refine H_take (i := 13) rfl (by kernel_rfl) (by kernel_rfl) (by kernel_rfl) rfl (pq_then pq_body) ⟨hE, hB1, trivial⟩ rfl (fun w hw => R_elAddr (i := 3) Try.underlying31 Try.sizeOf5 rfl rfl (h.ext hw.1) (Nat.le_of_ble_eq_true rfl)) ?_
  refine H_take (i := 14) rfl (by kernel_rfl) (by kernel_rfl) (by kernel_rfl) rfl (pq_then pq_body) ⟨hE, hB1, trivial⟩ rfl (fun w hw => R_loadEl (u := u8 (b3)) Try.isAgg5 rfl (h.ext hw.1) rfl) ?_
  refine H_take (i := 15) rfl (by kernel_rfl) (by kernel_rfl) (by kernel_rfl) rfl (pq_then pq_body) ⟨hE, hB1, trivial⟩ rfl (fun w hw => R_convU (b := b3) Try.runUnderlying3 (by decide) rfl) ?_
  refine H_take (i := 16) rfl (by kernel_rfl) (by kernel_rfl) (by kernel_rfl) rfl (pq_then pq_body) ⟨hE, hB1, trivial⟩ rfl (fun w hw => R_move rfl) ?_
  refine H_take (i := 17) rfl (by kernel_rfl) (by kernel_rfl) (by kernel_rfl) rfl (pq_then pq_body) ⟨hE, hB1, trivial⟩ rfl (fun w hw => R_elAddr (i := 4) Try.underlying31 Try.sizeOf5 rfl rfl (h.ext hw.1) (Nat.le_of_ble_eq_true rfl)) ?_
  refine H_take (i := 18) rfl (by kernel_rfl) (by kernel_rfl) (by kernel_rfl) rfl (pq_then pq_body) ⟨hE, hB1, trivial⟩ rfl (fun w hw => R_loadEl (u := u8 (b4)) Try.isAgg5 rfl (h.ext hw.1) rfl) ?_
  refine H_take (i := 19) rfl (by kernel_rfl) (by kernel_rfl) (by kernel_rfl) rfl (pq_then pq_body) ⟨hE, hB1, trivial⟩ rfl (fun w hw => R_convU (b := b4) Try.runUnderlying3 (by decide) rfl) ?_
  refine H_take (i := 20) rfl (by kernel_rfl) (by kernel_rfl) (by kernel_rfl) rfl (pq_then pq_body) ⟨hE, hB1, trivial⟩ rfl (fun w hw => R_move rfl) ?_
  refine H_take (i := 21) rfl (by kernel_rfl) (by kernel_rfl) (by kernel_rfl) rfl (pq_then pq_body) ⟨hE, hB1, trivial⟩ rfl (fun w hw => R_elAddr (i := 5) Try.underlying31 Try.sizeOf5 rfl rfl (h.ext hw.1) (Nat.le_of_ble_eq_true rfl)) ?_
  refine H_take (i := 22) rfl (by kernel_rfl) (by kernel_rfl) (by kernel_rfl) rfl (pq_then pq_body) ⟨hE, hB1, trivial⟩ rfl (fun w hw => R_loadEl (u := u8 (b5)) Try.isAgg5 rfl (h.ext hw.1) rfl) ?_
  refine H_take (i := 23) rfl (by kernel_rfl) (by kernel_rfl) (by kernel_rfl) rfl (pq_then pq_body) ⟨hE, hB1, trivial⟩ rfl (fun w hw => R_convU (b := b5) Try.runUnderlying22 (by decide) rfl) ?_
  refine H_take (i := 24) rfl (by kernel_rfl) (by kernel_rfl) (by kernel_rfl) rfl (pq_then pq_body) ⟨hE, hB1, trivial⟩ rfl (fun w hw => R_shlC (z := 8) rfl rfl (by decide) (by decide)) ?_
  refine H_take (i := 25) rfl (by kernel_rfl) (by kernel_rfl) (by kernel_rfl) rfl (pq_then pq_body) ⟨hE, hB1, trivial⟩ rfl (fun w hw => R_move rfl) ?_
  refine H_take (i := 26) rfl (by kernel_rfl) (by kernel_rfl) (by kernel_rfl) rfl (pq_then pq_body) ⟨hE, hB1, trivial⟩ rfl (fun w hw => R_elAddr (i := 6) Try.underlying31 Try.sizeOf5 rfl rfl (h.ext hw.1) (Nat.le_of_ble_eq_true rfl)) ?_
  refine H_take (i := 27) rfl (by kernel_rfl) (by kernel_rfl) (by kernel_rfl) rfl (pq_then pq_body) ⟨hE, hB1, trivial⟩ rfl (fun w hw => R_loadEl (u := u8 (b6)) Try.isAgg5 rfl (h.ext hw.1) rfl) ?_
  refine H_take (i := 28) rfl (by kernel_rfl) (by kernel_rfl) (by kernel_rfl) rfl (pq_then pq_body) ⟨hE, hB1, trivial⟩ rfl (fun w hw => R_convU (b := b6) Try.runUnderlying22 (by decide) rfl) ?_
  refine H_take (i := 29) rfl (by kernel_rfl) (by kernel_rfl) (by kernel_rfl) rfl (pq_then pq_body) ⟨hE, hB1, trivial⟩ rfl (fun w hw => R_orI rfl rfl) ?_
  refine H_take (i := 30) rfl (by kernel_rfl) (by kernel_rfl) (by kernel_rfl) rfl (pq_then pq_body) ⟨hE, hB1, trivial⟩ rfl (fun w hw => R_buildS (vs := [(0, i64 (b0.toNat : Int)), (1, i64 (b1.toNat : Int)), (2, i64 (b2.toNat : Int)), (3, i64 (b3.toNat : Int)), (4, i64 (b4.toNat : Int)), (5, i64 (bits .or .i64 (IntKind.wrap .i64 ((b5.toNat : Int) * 2 ^ 8)) (b6.toNat : Int)))]) (c := ((⟨(b0.toNat : Int), (b1.toNat : Int), (b2.toNat : Int), (b3.toNat : Int), (b4.toNat : Int), (bits .or .i64 (IntKind.wrap .i64 ((b5.toNat : Int) * 2 ^ 8)) (b6.toNat : Int)), Nm.zero, Nm.zero⟩ : Vt)).l) Try.runUnderlying26 places26 Try.zeroValue26 rfl (fill26 _ _ _ _ _ _)) ?_
  refine H_op (i := 31) (by kernel_rfl) rfl rfl (D_alloc (c := (Vt.zero).l) Try.zeroValue26 rfl (fun aB2 w3 e3 gB2 hB2 => ?_))
  have lB2 := Nat.le_trans hE.size gB2
  have nB1B2 := hB1.ne gB2
  replace hE := hE.trans e3
  replace hB1 := hB1.ext e3
  refine ⟨⟨hE, hB1, trivial⟩, ?_⟩
  refine H_op (i := 32) (by kernel_rfl) rfl rfl (D_storeA Try.sizeOf26 hB2 rfl rfl rfl rfl rfl (l' := ((⟨(b0.toNat : Int), (b1.toNat : Int), (b2.toNat : Int), (b3.toNat : Int), (b4.toNat : Int), (bits .or .i64 (IntKind.wrap .i64 ((b5.toNat : Int) * 2 ^ 8)) (b6.toNat : Int)), Nm.zero, Nm.zero⟩ : Vt)).l) rfl (fun w4 k4 hB2 => ?_))
  replace hE := hE.kp k4 lB2
  replace hB1 := hB1.kp k4 nB1B2
  refine ⟨⟨hE, hB1, trivial⟩, ?_⟩
  refine H_done (by kernel_rfl) ?_
  refine T_tn ?_
  refine wp_seq ?_
  refine W_tail 4 mixed (by kernel_rfl) (fun w5 e5 => ?_)
  replace hE := hE.trans e5
  replace hB1 := hB1.ext e5
  replace hB2 := hB2.ext e5
  refine T_v (R_fieldAddr Try.runUnderlying26 rfl Try.sizeOf24 rfl) ?_
  refine T_v (R_sliceArr (len := 7) Try.underlying24 Try.sizeOf5 rfl) ?_
  refine T_v (R_move rfl) ?_
  refine T_v (R_sliceLH (i := 7) (j := 15) Try.underlying31 Try.sizeOf5 rfl rfl rfl (h.ext hE) (Nat.le_of_ble_eq_true rfl) (Nat.le_of_ble_eq_true rfl)) ?_
  refine T_nil ?_
  refine L (D_copyBlk (l' := ((⟨(b0.toNat : Int), (b1.toNat : Int), (b2.toNat : Int), (b3.toNat : Int), (b4.toNat : Int), (bits .or .i64 (IntKind.wrap .i64 ((b5.toNat : Int) * 2 ^ 8)) (b6.toNat : Int)), ⟨b7, b8, b9, b10, b11, b12, b13, b14⟩, Nm.zero⟩ : Vt)).l) Try.underlying31 Try.sizeOf5 rfl rfl hB2 rfl ((h.ext hE).cut (Nat.le_of_ble_eq_true rfl) (Nat.le_of_ble_eq_true rfl)) (bl_plain _) rfl (fun w6 k6 hB2 => ?_))
  replace hE := hE.kp k6 lB2
  replace hB1 := hB1.kp k6 nB1B2
  refine S_nil ?_
  refine T_tn ?_
  refine wp_seq ?_
  refine W_tail 4 mixed (by kernel_rfl) (fun w7 e7 => ?_)
  replace hE := hE.trans e7
  replace hB1 := hB1.ext e7
  replace hB2 := hB2.ext e7
  refine T_v (R_fieldAddr Try.runUnderlying26 rfl Try.sizeOf24 rfl) ?_
  refine T_v (R_sliceArr (len := 7) Try.underlying24 Try.sizeOf5 rfl) ?_
  refine T_v (R_move rfl) ?_
  refine T_v (R_sliceLH (i := 15) (j := 23) Try.underlying31 Try.sizeOf5 rfl rfl rfl (h.ext hE) (Nat.le_of_ble_eq_true rfl) (Nat.le_of_ble_eq_true rfl)) ?_
  refine T_nil ?_
  refine L (D_copyBlk (l' := ((⟨(b0.toNat : Int), (b1.toNat : Int), (b2.toNat : Int), (b3.toNat : Int), (b4.toNat : Int), (bits .or .i64 (IntKind.wrap .i64 ((b5.toNat : Int) * 2 ^ 8)) (b6.toNat : Int)), ⟨b7, b8, b9, b10, b11, b12, b13, b14⟩, ⟨b15, b16, b17, b18, b19, b20, b21, b22⟩⟩ : Vt)).l) Try.underlying31 Try.sizeOf5 rfl rfl hB2 rfl ((h.ext hE).cut (Nat.le_of_ble_eq_true rfl) (Nat.le_of_ble_eq_true rfl)) (bl_plain _) rfl (fun w8 k8 hB2 => ?_))
  replace hE := hE.kp k8 lB2
  replace hB1 := hB1.kp k8 nB1B2
  refine S_nil ?_
  refine T_tn ?_
  refine wp_seq ?_
  refine wp_seq ?_
  refine W_region ?_
  refine L (D_v (R_loadA (c := ((⟨(b0.toNat : Int), (b1.toNat : Int), (b2.toNat : Int), (b3.toNat : Int), (b4.toNat : Int), (bits .or .i64 (IntKind.wrap .i64 ((b5.toNat : Int) * 2 ^ 8)) (b6.toNat : Int)), ⟨b7, b8, b9, b10, b11, b12, b13, b14⟩, ⟨b15, b16, b17, b18, b19, b20, b21, b22⟩⟩ : Vt)).l) Try.isAgg26 Try.sizeOf26 hB2 rfl rfl rfl) ?_)
  refine L (D_call (R_callF Try.call27 rfl rfl) (c27 ((⟨(b0.toNat : Int), (b1.toNat : Int), (b2.toNat : Int), (b3.toNat : Int), (b4.toNat : Int), (bits .or .i64 (IntKind.wrap .i64 ((b5.toNat : Int) * 2 ^ 8)) (b6.toNat : Int)), ⟨b7, b8, b9, b10, b11, b12, b13, b14⟩, ⟨b15, b16, b17, b18, b19, b20, b21, b22⟩⟩ : Vt)) _ ) (fun w9 e9 => ?_))
  replace hE := hE.trans e9
  replace hB1 := hB1.ext e9
  replace hB2 := hB2.ext e9
  refine L (D_v (R_not rfl) ?_)
  refine S_nil ?_
  refine T_tn ?_
  refine W_if rfl (fun c10 => ?_) (fun c10 => ?_)
  ·
    have hc := c10
    refine wp_seq ?_
    refine W_region ?_
    refine L (D_v (R_buildS (c := Vt.zero.l) Try.runUnderlying26 places26 Try.zeroValue26 rfl rfl) ?_)
    refine L (D_storeA Try.sizeOf26 hB1 rfl rfl rfl rfl rfl (l' := (Vt.zero).l) rfl (fun w10 k11 hB1 => ?_))
    replace hE := hE.kp k11 lB1
    replace hB2 := hB2.kp k11 nB1B2.symm
    refine L (D_v (R_assign rfl) ?_)
    refine S_nil ?_
    refine T_tn ?_
    refine wp_ret ?_
    refine T_tr ?_
    refine retct (c := (Vt.zero).l) (v2 := i64 (11)) rfl rfl rfl Try.isAgg26 Try.sizeOf26 hB1 rfl rfl ⟨?_, hE⟩
    simp only [sup2] at *; simp at hc; (first | (have he : dec [b0, b1, b2, b3, b4, b5, b6, b7, b8, b9, b10, b11, b12, b13, b14, b15, b16, b17, b18, b19, b20, b21, b22] = (rawV [b0, b1, b2, b3, b4, b5, b6, b7, b8, b9, b10, b11, b12, b13, b14, b15, b16, b17, b18, b19, b20, b21, b22], 0) := by (unfold dec; rw [if_neg (by simp), if_neg (by simp), if_pos (show valid (rawV [b0, b1, b2, b3, b4, b5, b6, b7, b8, b9, b10, b11, b12, b13, b14, b15, b16, b17, b18, b19, b20, b21, b22]) = true from hc)])) | (have he : dec [b0, b1, b2, b3, b4, b5, b6, b7, b8, b9, b10, b11, b12, b13, b14, b15, b16, b17, b18, b19, b20, b21, b22] = (Vt.zero, 11) := by (unfold dec; rw [if_neg (by simp), if_neg (by simp), if_neg (show ¬ valid (rawV [b0, b1, b2, b3, b4, b5, b6, b7, b8, b9, b10, b11, b12, b13, b14, b15, b16, b17, b18, b19, b20, b21, b22]) = true by rw [show valid (rawV [b0, b1, b2, b3, b4, b5, b6, b7, b8, b9, b10, b11, b12, b13, b14, b15, b16, b17, b18, b19, b20, b21, b22]) = false from hc]; simp)]))); rw [he]; rfl
  ·
    have hc := c10
    refine wp_skip ?_
    refine T_tn ?_
    refine wp_seq ?_
    refine W_region ?_
    refine L (D_v (R_loadA (c := ((⟨(b0.toNat : Int), (b1.toNat : Int), (b2.toNat : Int), (b3.toNat : Int), (b4.toNat : Int), (bits .or .i64 (IntKind.wrap .i64 ((b5.toNat : Int) * 2 ^ 8)) (b6.toNat : Int)), ⟨b7, b8, b9, b10, b11, b12, b13, b14⟩, ⟨b15, b16, b17, b18, b19, b20, b21, b22⟩⟩ : Vt)).l) Try.isAgg26 Try.sizeOf26 hB2 rfl rfl rfl) ?_)
    refine L (D_storeA Try.sizeOf26 hB1 rfl rfl rfl rfl rfl (l' := ((⟨(b0.toNat : Int), (b1.toNat : Int), (b2.toNat : Int), (b3.toNat : Int), (b4.toNat : Int), (bits .or .i64 (IntKind.wrap .i64 ((b5.toNat : Int) * 2 ^ 8)) (b6.toNat : Int)), ⟨b7, b8, b9, b10, b11, b12, b13, b14⟩, ⟨b15, b16, b17, b18, b19, b20, b21, b22⟩⟩ : Vt)).l) rfl (fun w11 k12 hB1 => ?_))
    replace hE := hE.kp k12 lB1
    replace hB2 := hB2.kp k12 nB1B2.symm
    refine L (D_v (R_assign rfl) ?_)
    refine S_nil ?_
    refine T_tn ?_
    refine wp_ret ?_
    refine retct (c := ((⟨(b0.toNat : Int), (b1.toNat : Int), (b2.toNat : Int), (b3.toNat : Int), (b4.toNat : Int), (bits .or .i64 (IntKind.wrap .i64 ((b5.toNat : Int) * 2 ^ 8)) (b6.toNat : Int)), ⟨b7, b8, b9, b10, b11, b12, b13, b14⟩, ⟨b15, b16, b17, b18, b19, b20, b21, b22⟩⟩ : Vt)).l) (v2 := i64 (0)) rfl rfl rfl Try.isAgg26 Try.sizeOf26 hB1 rfl rfl ⟨?_, hE⟩
    simp only [sup2] at *; simp at hc; (first | (have he : dec [b0, b1, b2, b3, b4, b5, b6, b7, b8, b9, b10, b11, b12, b13, b14, b15, b16, b17, b18, b19, b20, b21, b22] = (rawV [b0, b1, b2, b3, b4, b5, b6, b7, b8, b9, b10, b11, b12, b13, b14, b15, b16, b17, b18, b19, b20, b21, b22], 0) := by (unfold dec; rw [if_neg (by simp), if_neg (by simp), if_pos (show valid (rawV [b0, b1, b2, b3, b4, b5, b6, b7, b8, b9, b10, b11, b12, b13, b14, b15, b16, b17, b18, b19, b20, b21, b22]) = true from hc)])) | (have he : dec [b0, b1, b2, b3, b4, b5, b6, b7, b8, b9, b10, b11, b12, b13, b14, b15, b16, b17, b18, b19, b20, b21, b22] = (Vt.zero, 11) := by (unfold dec; rw [if_neg (by simp), if_neg (by simp), if_neg (show ¬ valid (rawV [b0, b1, b2, b3, b4, b5, b6, b7, b8, b9, b10, b11, b12, b13, b14, b15, b16, b17, b18, b19, b20, b21, b22]) = true by rw [show valid (rawV [b0, b1, b2, b3, b4, b5, b6, b7, b8, b9, b10, b11, b12, b13, b14, b15, b16, b17, b18, b19, b20, b21, b22]) = false from hc]; simp)]))); rw [he]; rfl

theorem c41 (v : Value) (b : List UInt8) (w : World) (h : Bs w v b) : Calls Try.prog 41 [v].toArray w (Ret w (.tuple #[(dec (b)).1.v, i64 (dec (b)).2])) := by
  by_cases hl : b.length = 23
  · obtain ⟨b0, b1, b2, b3, b4, b5, b6, b7, b8, b9, b10, b11, b12, b13, b14, b15, b16, b17, b18, b19, b20, b21, b22, rfl⟩ := list23 hl
    exact c41_23 v _ _ _ _ _ _ _ _ _ _ _ _ _ _ _ _ _ _ _ _ _ _ _ w h
  · exact c41_ne v b w h hl
end Go.Proofs.Yteeopgpgbdhmhaa
