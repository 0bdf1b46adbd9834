/- Walks of the functions on bytes: the hash. No condition. Printed by wip/mkB.py. -/
import Derived.Test.YteeopgpgbdhmhaaWC
namespace Go.Proofs.Yteeopgpgbdhmhaa
open Go.RowKit
set_option linter.unusedVariables false
set_option linter.unusedSimpArgs false
attribute [local irreducible] wpList wpO H wpQuiet wpStill Code.wp Exit.then Exit.inBlock bodyPost Code.rounds Calls valid sameKey conflict lessV hless num between
-- math/bits.RotateLeft64
set_option maxRecDepth 4000 in
set_option maxHeartbeats 1000000 in
theorem c135_13 (x : Int) (w : World) : Calls Try.prog 135 [.int .u64 x, i64 13].toArray w (Ret w (.int .u64 (rot x 13))) := by
  refine enter Try.func135 Try.ntmps135 rfl rfl ?_
  have hE := Ext.refl w
  refine wp_seq ?_
  refine W_region ?_
  refine L (D_v (R_assign rfl) ?_)
  refine S_nil ?_
  refine T_tn ?_
  refine wp_seq ?_
  refine W_region ?_
  refine L (D_v (R_move rfl) ?_)
  refine L (D_v (R_conv Try.runUnderlying3 Try.runUnderlying83 rfl) ?_)
  refine L (D_v (R_andI rfl rfl) ?_)
  refine L (D_v (R_assign rfl) ?_)
  refine S_nil ?_
  refine T_tn ?_
  refine wp_seq ?_
  refine W_region ?_
  refine L (D_v (R_move rfl) ?_)
  refine L (D_v (R_move rfl) ?_)
  refine L (D_v (R_shl rfl rfl (by decide)) ?_)
  refine L (D_v (R_move rfl) ?_)
  refine L (D_v (R_move rfl) ?_)
  refine L (D_v (R_subI rfl rfl) ?_)
  refine L (D_v (R_shr rfl rfl (by decide)) ?_)
  refine L (D_v (R_orI rfl rfl) ?_)
  refine L (D_v (R_assign rfl) ?_)
  refine S_nil ?_
  refine T_tn ?_
  refine wp_ret ?_
  refine ret1 (v := .int _ _) rfl rfl ⟨?_, hE⟩
  rfl

-- math/bits.RotateLeft64
set_option maxRecDepth 4000 in
set_option maxHeartbeats 1000000 in
theorem c135_32 (x : Int) (w : World) : Calls Try.prog 135 [.int .u64 x, i64 32].toArray w (Ret w (.int .u64 (rot x 32))) := by
  refine enter Try.func135 Try.ntmps135 rfl rfl ?_
  have hE := Ext.refl w
  refine wp_seq ?_
  refine W_region ?_
  refine L (D_v (R_assign rfl) ?_)
  refine S_nil ?_
  refine T_tn ?_
  refine wp_seq ?_
  refine W_region ?_
  refine L (D_v (R_move rfl) ?_)
  refine L (D_v (R_conv Try.runUnderlying3 Try.runUnderlying83 rfl) ?_)
  refine L (D_v (R_andI rfl rfl) ?_)
  refine L (D_v (R_assign rfl) ?_)
  refine S_nil ?_
  refine T_tn ?_
  refine wp_seq ?_
  refine W_region ?_
  refine L (D_v (R_move rfl) ?_)
  refine L (D_v (R_move rfl) ?_)
  refine L (D_v (R_shl rfl rfl (by decide)) ?_)
  refine L (D_v (R_move rfl) ?_)
  refine L (D_v (R_move rfl) ?_)
  refine L (D_v (R_subI rfl rfl) ?_)
  refine L (D_v (R_shr rfl rfl (by decide)) ?_)
  refine L (D_v (R_orI rfl rfl) ?_)
  refine L (D_v (R_assign rfl) ?_)
  refine S_nil ?_
  refine T_tn ?_
  refine wp_ret ?_
  refine ret1 (v := .int _ _) rfl rfl ⟨?_, hE⟩
  rfl

-- forkledger/forkledgerref1.rotl
set_option maxRecDepth 4000 in
set_option maxHeartbeats 1000000 in
theorem c167_13 (x : Int) (w : World) : Calls Try.prog 167 [.int .u64 x, .int .u64 13].toArray w (Ret w (.int .u64 (rot x 13))) := by
  refine enter Try.func167 Try.ntmps167 rfl rfl ?_
  have hE := Ext.refl w
  refine wp_seq ?_
  refine W_region ?_
  refine L (D_v (R_assign rfl) ?_)
  refine S_nil ?_
  refine T_tn ?_
  refine wp_seq ?_
  refine W_region ?_
  refine L (D_v (R_move rfl) ?_)
  refine L (D_v (R_move rfl) ?_)
  refine L (D_v (R_shlC (z := 13) rfl rfl (by decide) (by decide)) ?_)
  refine L (D_v (R_move rfl) ?_)
  refine L (D_v (R_move rfl) ?_)
  refine L (D_v (R_subI rfl rfl) ?_)
  refine L (D_v (R_shr rfl rfl (by decide)) ?_)
  refine L (D_v (R_orI rfl rfl) ?_)
  refine L (D_v (R_assign rfl) ?_)
  refine S_nil ?_
  refine T_tn ?_
  refine wp_ret ?_
  refine ret1 (v := .int _ _) rfl rfl ⟨?_, hE⟩
  rfl

-- forkledger/forkledgerref1.rotl
set_option maxRecDepth 4000 in
set_option maxHeartbeats 1000000 in
theorem c167_32 (x : Int) (w : World) : Calls Try.prog 167 [.int .u64 x, .int .u64 32].toArray w (Ret w (.int .u64 (rot x 32))) := by
  refine enter Try.func167 Try.ntmps167 rfl rfl ?_
  have hE := Ext.refl w
  refine wp_seq ?_
  refine W_region ?_
  refine L (D_v (R_assign rfl) ?_)
  refine S_nil ?_
  refine T_tn ?_
  refine wp_seq ?_
  refine W_region ?_
  refine L (D_v (R_move rfl) ?_)
  refine L (D_v (R_move rfl) ?_)
  refine L (D_v (R_shlC (z := 32) rfl rfl (by decide) (by decide)) ?_)
  refine L (D_v (R_move rfl) ?_)
  refine L (D_v (R_move rfl) ?_)
  refine L (D_v (R_subI rfl rfl) ?_)
  refine L (D_v (R_shr rfl rfl (by decide)) ?_)
  refine L (D_v (R_orI rfl rfl) ?_)
  refine L (D_v (R_assign rfl) ?_)
  refine S_nil ?_
  refine T_tn ?_
  refine wp_ret ?_
  refine ret1 (v := .int _ _) rfl rfl ⟨?_, hE⟩
  rfl

set_option maxRecDepth 4000 in
set_option maxHeartbeats 2000000 in
theorem c112 (aB0 k : Nat) (hk : k ≤ 1000) (x y : Int) (w : World) (hB0 : Blk w aB0 [.int .u64 x, .int .u64 y] 123) : Calls Try.prog 112 [.pointer (some ⟨aB0, 0, none⟩), i64 (k : Int)].toArray w (RetM w aB0 [.int .u64 (mx k x y).1, .int .u64 (mx k x y).2] 123) := by
  refine enter Try.func112 Try.ntmps112 rfl rfl ?_
  have hE := Chg.refl aB0 w
  have lB0 := trivial
  refine wp_seq ?_
  refine W_region ?_
  refine L (D_v (R_move rfl) ?_)
  refine L (D_v (R_move rfl) ?_)
  refine S_nil ?_
  refine T_tn ?_
  refine wp_block ?_
  refine W_loop (fun m g W => ∃ (X Y : Int) (i : Nat), m = k - i ∧ g 0 = .pointer (some ⟨aB0, 0, none⟩) ∧ g 4 = i64 (k : Int) ∧ g 5 = i64 (i : Int) ∧ Chg aB0 w W ∧ Blk W aB0 [.int .u64 X, .int .u64 Y] 123 ∧ i ≤ k ∧ mx (k - i) X Y = mx k x y) ⟨x, y, 0, rfl, rfl, rfl, rfl, hE, hB0, Nat.zero_le _, rfl⟩ ?_
  clear hE hB0
  rintro m f1 w1 ⟨X, Y, i, hm, q0, q4, q5, hE, hB0, hi, hmx⟩
  subst hm
  refine wp_seq ?_
  refine W_region ?_
  refine L (D_v (R_lssI q5 q4) ?_)
  refine S_nil ?_
  refine T_tn ?_
  refine wp_seq ?_
  refine W_if rfl (fun c3 => ?_) (fun c3 => ?_)
  ·
    have lk : i < k := by simpa using c3
    refine wp_skip ?_
    refine T_tn ?_
    refine wp_seq ?_
    refine wp_block ?_
    refine wp_seq ?_
    refine W_tail 11 mixed (by kernel_rfl) (fun w2 e4 => ?_)
    replace hE := hE.trans e4
    replace hB0 := hB0.ext e4
    refine T_v (R_move q0) ?_
    refine T_v (R_nilCheck rfl) ?_
    refine T_v (R_fieldAddr Try.runUnderlying123 rfl Try.sizeOf36 rfl) ?_
    refine T_v (R_load Try.isAgg36 hB0 rfl rfl) ?_
    refine T_v (R_move q0) ?_
    refine T_v (R_nilCheck rfl) ?_
    refine T_v (R_fieldAddr Try.runUnderlying123 rfl Try.sizeOf36 rfl) ?_
    refine T_v (R_load Try.isAgg36 hB0 rfl rfl) ?_
    refine T_v (R_addI rfl rfl) ?_
    refine T_v (R_nilCheck rfl) ?_
    refine T_v (R_fieldAddr Try.runUnderlying123 rfl Try.sizeOf36 rfl) ?_
    refine T_nil ?_
    refine L (D_store1 Try.sizeOf36 hB0 rfl rfl rfl rfl (fun w3 k5 (hB0 : Blk w3 aB0 [.int .u64 (IntKind.wrap .u64 (X + Y)), .int .u64 Y] 123) => ?_))
    replace hE := hE.kp k5 lB0
    refine S_nil ?_
    refine T_tn ?_
    refine wp_seq ?_
    refine W_held (fun W => Chg aB0 w W ∧ True) mixed (fun w4 e6 => ?_)
    replace hE := hE.trans e6
    replace hB0 := hB0.ext e6
    refine H_take (i := 0) rfl (by kernel_rfl) (by kernel_rfl) (by kernel_rfl) rfl (pq_then (pq_block (pq_then (pq_then (pq_block pq_body))))) ⟨hE, trivial⟩ rfl (fun w hw => R_move q0) ?_
    refine H_take (i := 1) rfl (by kernel_rfl) (by kernel_rfl) (by kernel_rfl) rfl (pq_then (pq_block (pq_then (pq_then (pq_block pq_body))))) ⟨hE, trivial⟩ rfl (fun w hw => R_move q0) ?_
    refine H_take (i := 2) rfl (by kernel_rfl) (by kernel_rfl) (by kernel_rfl) rfl (pq_then (pq_block (pq_then (pq_then (pq_block pq_body))))) ⟨hE, trivial⟩ rfl (fun w hw => R_nilCheck rfl) ?_
    refine H_take (i := 3) rfl (by kernel_rfl) (by kernel_rfl) (by kernel_rfl) rfl (pq_then (pq_block (pq_then (pq_then (pq_block pq_body))))) ⟨hE, trivial⟩ rfl (fun w hw => R_fieldAddr Try.runUnderlying123 rfl Try.sizeOf36 rfl) ?_
    refine H_take (i := 6) rfl (by kernel_rfl) (by kernel_rfl) (by kernel_rfl) rfl (pq_then (pq_block (pq_then (pq_then (pq_block pq_body))))) ⟨hE, trivial⟩ rfl (fun w hw => R_move q0) ?_
    refine H_take (i := 7) rfl (by kernel_rfl) (by kernel_rfl) (by kernel_rfl) rfl (pq_then (pq_block (pq_then (pq_then (pq_block pq_body))))) ⟨hE, trivial⟩ rfl (fun w hw => R_nilCheck rfl) ?_
    refine H_take (i := 8) rfl (by kernel_rfl) (by kernel_rfl) (by kernel_rfl) rfl (pq_then (pq_block (pq_then (pq_then (pq_block pq_body))))) ⟨hE, trivial⟩ rfl (fun w hw => R_fieldAddr Try.runUnderlying123 rfl Try.sizeOf36 rfl) ?_
    refine H_op2 (i := 4) (i2 := 9) (by kernel_rfl) rfl rfl rfl rfl ?_ ?_
    ·
      refine D_v (R_load Try.isAgg36 hB0 rfl rfl) ⟨⟨hE, trivial⟩, ?_⟩
      refine H_op2 (i := 5) (i2 := 9) (by kernel_rfl) rfl rfl rfl rfl ?_ ?_
      ·
        refine D_call (R_callF Try.call135 rfl rfl) (c135_13 _ _) (fun w5 e7 => ?_)
        replace hE := hE.trans e7
        replace hB0 := hB0.ext e7
        refine ⟨⟨hE, trivial⟩, ?_⟩
        refine H_op (i := 9) (by kernel_rfl) rfl rfl (D_v (R_load Try.isAgg36 hB0 rfl rfl) ⟨⟨hE, trivial⟩, ?_⟩)
        refine H_take (i := 10) rfl (by kernel_rfl) (by kernel_rfl) (by kernel_rfl) rfl (pq_then (pq_block (pq_then (pq_then (pq_block pq_body))))) ⟨hE, trivial⟩ rfl (fun w hw => R_xorI rfl rfl) ?_
        refine H_take (i := 11) rfl (by kernel_rfl) (by kernel_rfl) (by kernel_rfl) rfl (pq_then (pq_block (pq_then (pq_then (pq_block pq_body))))) ⟨hE, trivial⟩ rfl (fun w hw => R_nilCheck rfl) ?_
        refine H_take (i := 12) rfl (by kernel_rfl) (by kernel_rfl) (by kernel_rfl) rfl (pq_then (pq_block (pq_then (pq_then (pq_block pq_body))))) ⟨hE, trivial⟩ rfl (fun w hw => R_fieldAddr Try.runUnderlying123 rfl Try.sizeOf36 rfl) ?_
        refine H_op (i := 13) (by kernel_rfl) rfl rfl (D_store1 Try.sizeOf36 hB0 rfl rfl rfl rfl (fun w6 k8 (hB0 : Blk w6 aB0 [.int .u64 (IntKind.wrap .u64 (X + Y)), .int .u64 (bits .xor .u64 (rot Y 13) (IntKind.wrap .u64 (X + Y)))] 123) => ?_))
        replace hE := hE.kp k8 lB0
        refine ⟨⟨hE, trivial⟩, ?_⟩
        refine H_done (by kernel_rfl) ?_
        refine T_tn ?_
        refine W_region ?_
        refine L (D_v (R_move q0) ?_)
        refine L (D_v (R_move q0) ?_)
        refine L (D_v (R_nilCheck rfl) ?_)
        refine L (D_v (R_fieldAddr Try.runUnderlying123 rfl Try.sizeOf36 rfl) ?_)
        refine L (D_v (R_load Try.isAgg36 hB0 rfl rfl) ?_)
        refine L (D_call (R_callF Try.call135 rfl rfl) (c135_32 _ _) (fun w7 e9 => ?_))
        replace hE := hE.trans e9
        replace hB0 := hB0.ext e9
        refine L (D_v (R_mulI rfl rfl) ?_)
        refine L (D_v (R_nilCheck rfl) ?_)
        refine L (D_v (R_fieldAddr Try.runUnderlying123 rfl Try.sizeOf36 rfl) ?_)
        refine L (D_store1 Try.sizeOf36 hB0 rfl rfl rfl rfl (fun w8 k10 hB0 => ?_))
        replace hE := hE.kp k10 lB0
        refine S_nil ?_
        refine T_bn ?_
        refine T_tn ?_
        refine W_region ?_
        refine L (D_v (R_addN (m := i) (j := 1) q5 rfl (by (try simp only [List.length_take, List.length_drop, List.length_append, List.length_cons, List.length_nil, Nm.b_len, be2_len]); omega)) ?_)
        refine L (D_v (R_move rfl) ?_)
        refine S_nil ?_
        refine T_tn ?_
        refine ⟨_, _, ?_, rfl, mxX X Y, mxY X Y, i + 1, rfl, q0, q4, rfl, hE, hB0, ?_, ?_⟩
        all_goals first | omega | (rw [show k - i = (k - (i + 1)) + 1 by omega] at hmx; exact hmx)
      ·
        refine D_v (R_load Try.isAgg36 hB0 rfl rfl) ⟨⟨hE, trivial⟩, ?_⟩
        refine H_op (i := 5) (by kernel_rfl) rfl rfl (D_call (R_callF Try.call135 rfl rfl) (c135_13 _ _) (fun w9 e11 => ?_))
        replace hE := hE.trans e11
        replace hB0 := hB0.ext e11
        refine ⟨⟨hE, trivial⟩, ?_⟩
        refine H_take (i := 10) rfl (by kernel_rfl) (by kernel_rfl) (by kernel_rfl) rfl (pq_then (pq_block (pq_then (pq_then (pq_block pq_body))))) ⟨hE, trivial⟩ rfl (fun w hw => R_xorI rfl rfl) ?_
        refine H_take (i := 11) rfl (by kernel_rfl) (by kernel_rfl) (by kernel_rfl) rfl (pq_then (pq_block (pq_then (pq_then (pq_block pq_body))))) ⟨hE, trivial⟩ rfl (fun w hw => R_nilCheck rfl) ?_
        refine H_take (i := 12) rfl (by kernel_rfl) (by kernel_rfl) (by kernel_rfl) rfl (pq_then (pq_block (pq_then (pq_then (pq_block pq_body))))) ⟨hE, trivial⟩ rfl (fun w hw => R_fieldAddr Try.runUnderlying123 rfl Try.sizeOf36 rfl) ?_
        refine H_op (i := 13) (by kernel_rfl) rfl rfl (D_store1 Try.sizeOf36 hB0 rfl rfl rfl rfl (fun w10 k12 (hB0 : Blk w10 aB0 [.int .u64 (IntKind.wrap .u64 (X + Y)), .int .u64 (bits .xor .u64 (rot Y 13) (IntKind.wrap .u64 (X + Y)))] 123) => ?_))
        replace hE := hE.kp k12 lB0
        refine ⟨⟨hE, trivial⟩, ?_⟩
        refine H_done (by kernel_rfl) ?_
        refine T_tn ?_
        refine W_region ?_
        refine L (D_v (R_move q0) ?_)
        refine L (D_v (R_move q0) ?_)
        refine L (D_v (R_nilCheck rfl) ?_)
        refine L (D_v (R_fieldAddr Try.runUnderlying123 rfl Try.sizeOf36 rfl) ?_)
        refine L (D_v (R_load Try.isAgg36 hB0 rfl rfl) ?_)
        refine L (D_call (R_callF Try.call135 rfl rfl) (c135_32 _ _) (fun w11 e13 => ?_))
        replace hE := hE.trans e13
        replace hB0 := hB0.ext e13
        refine L (D_v (R_mulI rfl rfl) ?_)
        refine L (D_v (R_nilCheck rfl) ?_)
        refine L (D_v (R_fieldAddr Try.runUnderlying123 rfl Try.sizeOf36 rfl) ?_)
        refine L (D_store1 Try.sizeOf36 hB0 rfl rfl rfl rfl (fun w12 k14 hB0 => ?_))
        replace hE := hE.kp k14 lB0
        refine S_nil ?_
        refine T_bn ?_
        refine T_tn ?_
        refine W_region ?_
        refine L (D_v (R_addN (m := i) (j := 1) q5 rfl (by (try simp only [List.length_take, List.length_drop, List.length_append, List.length_cons, List.length_nil, Nm.b_len, be2_len]); omega)) ?_)
        refine L (D_v (R_move rfl) ?_)
        refine S_nil ?_
        refine T_tn ?_
        refine ⟨_, _, ?_, rfl, mxX X Y, mxY X Y, i + 1, rfl, q0, q4, rfl, hE, hB0, ?_, ?_⟩
        all_goals first | omega | (rw [show k - i = (k - (i + 1)) + 1 by omega] at hmx; exact hmx)
    ·
      refine D_v (R_load Try.isAgg36 hB0 rfl rfl) ⟨⟨hE, trivial⟩, ?_⟩
      refine H_op (i := 4) (by kernel_rfl) rfl rfl (D_v (R_load Try.isAgg36 hB0 rfl rfl) ⟨⟨hE, trivial⟩, ?_⟩)
      refine H_op (i := 5) (by kernel_rfl) rfl rfl (D_call (R_callF Try.call135 rfl rfl) (c135_13 _ _) (fun w13 e15 => ?_))
      replace hE := hE.trans e15
      replace hB0 := hB0.ext e15
      refine ⟨⟨hE, trivial⟩, ?_⟩
      refine H_take (i := 10) rfl (by kernel_rfl) (by kernel_rfl) (by kernel_rfl) rfl (pq_then (pq_block (pq_then (pq_then (pq_block pq_body))))) ⟨hE, trivial⟩ rfl (fun w hw => R_xorI rfl rfl) ?_
      refine H_take (i := 11) rfl (by kernel_rfl) (by kernel_rfl) (by kernel_rfl) rfl (pq_then (pq_block (pq_then (pq_then (pq_block pq_body))))) ⟨hE, trivial⟩ rfl (fun w hw => R_nilCheck rfl) ?_
      refine H_take (i := 12) rfl (by kernel_rfl) (by kernel_rfl) (by kernel_rfl) rfl (pq_then (pq_block (pq_then (pq_then (pq_block pq_body))))) ⟨hE, trivial⟩ rfl (fun w hw => R_fieldAddr Try.runUnderlying123 rfl Try.sizeOf36 rfl) ?_
      refine H_op (i := 13) (by kernel_rfl) rfl rfl (D_store1 Try.sizeOf36 hB0 rfl rfl rfl rfl (fun w14 k16 (hB0 : Blk w14 aB0 [.int .u64 (IntKind.wrap .u64 (X + Y)), .int .u64 (bits .xor .u64 (rot Y 13) (IntKind.wrap .u64 (X + Y)))] 123) => ?_))
      replace hE := hE.kp k16 lB0
      refine ⟨⟨hE, trivial⟩, ?_⟩
      refine H_done (by kernel_rfl) ?_
      refine T_tn ?_
      refine W_region ?_
      refine L (D_v (R_move q0) ?_)
      refine L (D_v (R_move q0) ?_)
      refine L (D_v (R_nilCheck rfl) ?_)
      refine L (D_v (R_fieldAddr Try.runUnderlying123 rfl Try.sizeOf36 rfl) ?_)
      refine L (D_v (R_load Try.isAgg36 hB0 rfl rfl) ?_)
      refine L (D_call (R_callF Try.call135 rfl rfl) (c135_32 _ _) (fun w15 e17 => ?_))
      replace hE := hE.trans e17
      replace hB0 := hB0.ext e17
      refine L (D_v (R_mulI rfl rfl) ?_)
      refine L (D_v (R_nilCheck rfl) ?_)
      refine L (D_v (R_fieldAddr Try.runUnderlying123 rfl Try.sizeOf36 rfl) ?_)
      refine L (D_store1 Try.sizeOf36 hB0 rfl rfl rfl rfl (fun w16 k18 hB0 => ?_))
      replace hE := hE.kp k18 lB0
      refine S_nil ?_
      refine T_bn ?_
      refine T_tn ?_
      refine W_region ?_
      refine L (D_v (R_addN (m := i) (j := 1) q5 rfl (by (try simp only [List.length_take, List.length_drop, List.length_append, List.length_cons, List.length_nil, Nm.b_len, be2_len]); omega)) ?_)
      refine L (D_v (R_move rfl) ?_)
      refine S_nil ?_
      refine T_tn ?_
      refine ⟨_, _, ?_, rfl, mxX X Y, mxY X Y, i + 1, rfl, q0, q4, rfl, hE, hB0, ?_, ?_⟩
      all_goals first | omega | (rw [show k - i = (k - (i + 1)) + 1 by omega] at hmx; exact hmx)
  ·
    have lk : ¬ i < k := by simpa using c3
    refine wp_exit ?_
    refine T_te ?_
    refine T_te ?_
    refine T_be ?_
    obtain rfl : i = k := by omega
    rw [Nat.sub_self] at hmx
    rw [← hmx]
    refine ret0n rfl ⟨rfl, hE, hB0⟩

-- forkledger/forkledgerref1.mix
set_option maxRecDepth 4000 in
set_option maxHeartbeats 1000000 in
theorem c137 (x y : Int) (w : World) : Calls Try.prog 137 [.int .u64 x, .int .u64 y].toArray w (Ret w (.tuple #[.int .u64 (mxX x y), .int .u64 (mxY x y)])) := by
  refine enter Try.func137 Try.ntmps137 rfl rfl ?_
  have hE := Ext.refl w
  refine wp_seq ?_
  refine W_region ?_
  refine L (D_v (R_assign rfl) ?_)
  refine L (D_v (R_assign rfl) ?_)
  refine S_nil ?_
  refine T_tn ?_
  refine wp_seq ?_
  refine W_region ?_
  refine L (D_v (R_move rfl) ?_)
  refine L (D_v (R_move rfl) ?_)
  refine L (D_v (R_addI rfl rfl) ?_)
  refine L (D_v (R_assign rfl) ?_)
  refine S_nil ?_
  refine T_tn ?_
  refine wp_seq ?_
  refine W_region ?_
  refine L (D_v (R_move rfl) ?_)
  refine L (D_call (R_callF Try.call167 rfl rfl) (c167_13 _ _) (fun w1 e1 => ?_))
  replace hE := hE.trans e1
  refine L (D_v (R_move rfl) ?_)
  refine L (D_v (R_xorI rfl rfl) ?_)
  refine L (D_v (R_assign rfl) ?_)
  refine S_nil ?_
  refine T_tn ?_
  refine wp_seq ?_
  refine W_region ?_
  refine L (D_v (R_move rfl) ?_)
  refine L (D_call (R_callF Try.call167 rfl rfl) (c167_32 _ _) (fun w2 e2 => ?_))
  replace hE := hE.trans e2
  refine L (D_v (R_mulI rfl rfl) ?_)
  refine L (D_v (R_assign rfl) ?_)
  refine S_nil ?_
  refine T_tn ?_
  refine wp_seq ?_
  refine W_region ?_
  refine L (D_v (R_move rfl) ?_)
  refine L (D_v (R_move rfl) ?_)
  refine L (D_v (R_assign rfl) ?_)
  refine L (D_v (R_assign rfl) ?_)
  refine S_nil ?_
  refine T_tn ?_
  refine wp_ret ?_
  refine ret2 (v := .int _ _) (v2 := .int _ _) rfl rfl rfl ⟨?_, hE⟩
  rfl

-- forkledger/hash.Of
set_option maxRecDepth 4000 in
set_option maxHeartbeats 1000000 in
theorem c113 (x : Int) (w : World) : Calls Try.prog 113 [.int .u64 x].toArray w (Ret w (nmOf x).v) := by
  refine enter Try.func113 Try.ntmps113 rfl rfl ?_
  have hE := Ext.refl w
  refine wp_seq ?_
  refine W_region ?_
  refine L (D_alloc (c := (Nm.zero).l) Try.zeroValue24 rfl (fun aB1 w1 e1 gB1 hB1 => ?_))
  have lB1 := Nat.le_trans hE.size gB1
  replace hE := hE.trans e1
  refine S_nil ?_
  refine T_tn ?_
  refine wp_seq ?_
  refine W_region ?_
  refine L (D_v (R_move rfl) ?_)
  refine L (D_v (R_shrC (z := 56) rfl rfl (by decide) (by decide)) ?_)
  refine L (D_v (R_convB Try.runUnderlying36 rfl) ?_)
  refine L (D_v (R_move rfl) ?_)
  refine L (D_v (R_shrC (z := 48) rfl rfl (by decide) (by decide)) ?_)
  refine L (D_v (R_convB Try.runUnderlying36 rfl) ?_)
  refine L (D_v (R_move rfl) ?_)
  refine L (D_v (R_shrC (z := 40) rfl rfl (by decide) (by decide)) ?_)
  refine L (D_v (R_convB Try.runUnderlying36 rfl) ?_)
  refine L (D_v (R_move rfl) ?_)
  refine L (D_v (R_shrC (z := 32) rfl rfl (by decide) (by decide)) ?_)
  refine L (D_v (R_convB Try.runUnderlying36 rfl) ?_)
  refine L (D_v (R_move rfl) ?_)
  refine L (D_v (R_shrC (z := 24) rfl rfl (by decide) (by decide)) ?_)
  refine L (D_v (R_convB Try.runUnderlying36 rfl) ?_)
  refine L (D_v (R_move rfl) ?_)
  refine L (D_v (R_shrC (z := 16) rfl rfl (by decide) (by decide)) ?_)
  refine L (D_v (R_convB Try.runUnderlying36 rfl) ?_)
  refine L (D_v (R_move rfl) ?_)
  refine L (D_v (R_shrC (z := 8) rfl rfl (by decide) (by decide)) ?_)
  refine L (D_v (R_convB Try.runUnderlying36 rfl) ?_)
  refine L (D_v (R_move rfl) ?_)
  refine L (D_v (R_convB Try.runUnderlying36 rfl) ?_)
  refine L (D_v (R_buildA (vs := [(0, u8 (by8 ((x / 2 ^ 56)))), (1, u8 (by8 ((x / 2 ^ 48)))), (2, u8 (by8 ((x / 2 ^ 40)))), (3, u8 (by8 ((x / 2 ^ 32)))), (4, u8 (by8 ((x / 2 ^ 24)))), (5, u8 (by8 ((x / 2 ^ 16)))), (6, u8 (by8 ((x / 2 ^ 8)))), (7, u8 (by8 (x)))]) (c := (⟨(by8 ((x / 2 ^ 56))), (by8 ((x / 2 ^ 48))), (by8 ((x / 2 ^ 40))), (by8 ((x / 2 ^ 32))), (by8 ((x / 2 ^ 24))), (by8 ((x / 2 ^ 16))), (by8 ((x / 2 ^ 8))), (by8 (x))⟩ : Nm).l) Try.runUnderlying24 Try.sizeOf5 Try.zeroValue24 rfl (fill24 _ _ _ _ _ _ _ _)) ?_)
  refine L (D_storeA Try.sizeOf24 hB1 rfl rfl rfl rfl rfl (l' := ((⟨(by8 ((x / 2 ^ 56))), (by8 ((x / 2 ^ 48))), (by8 ((x / 2 ^ 40))), (by8 ((x / 2 ^ 32))), (by8 ((x / 2 ^ 24))), (by8 ((x / 2 ^ 16))), (by8 ((x / 2 ^ 8))), (by8 (x))⟩ : Nm)).l) rfl (fun w2 k2 hB1 => ?_))
  replace hE := hE.kp k2 lB1
  refine S_nil ?_
  refine T_tn ?_
  refine wp_ret ?_
  refine retc (c := ((⟨(by8 ((x / 2 ^ 56))), (by8 ((x / 2 ^ 48))), (by8 ((x / 2 ^ 40))), (by8 ((x / 2 ^ 32))), (by8 ((x / 2 ^ 24))), (by8 ((x / 2 ^ 16))), (by8 ((x / 2 ^ 8))), (by8 (x))⟩ : Nm)).l) rfl rfl Try.isAgg24 Try.sizeOf24 hB1 rfl rfl ⟨?_, hE⟩
  rfl

-- forkledger/forkledgerref1.Of
set_option maxRecDepth 4000 in
set_option maxHeartbeats 1000000 in
theorem c138 (x : Int) (w : World) : Calls Try.prog 138 [.int .u64 x].toArray w (Ret w (nmOf x).v) := by
  refine enter Try.func138 Try.ntmps138 rfl rfl ?_
  have hE := Ext.refl w
  refine wp_seq ?_
  refine W_region ?_
  refine L (D_alloc (c := (Nm.zero).l) Try.zeroValue24 rfl (fun aB1 w1 e1 gB1 hB1 => ?_))
  have lB1 := Nat.le_trans hE.size gB1
  replace hE := hE.trans e1
  refine S_nil ?_
  refine T_tn ?_
  refine wp_seq ?_
  refine W_region ?_
  refine L (D_v (R_move rfl) ?_)
  refine L (D_v (R_shrC (z := 56) rfl rfl (by decide) (by decide)) ?_)
  refine L (D_v (R_convB Try.runUnderlying36 rfl) ?_)
  refine L (D_v (R_move rfl) ?_)
  refine L (D_v (R_shrC (z := 48) rfl rfl (by decide) (by decide)) ?_)
  refine L (D_v (R_convB Try.runUnderlying36 rfl) ?_)
  refine L (D_v (R_move rfl) ?_)
  refine L (D_v (R_shrC (z := 40) rfl rfl (by decide) (by decide)) ?_)
  refine L (D_v (R_convB Try.runUnderlying36 rfl) ?_)
  refine L (D_v (R_move rfl) ?_)
  refine L (D_v (R_shrC (z := 32) rfl rfl (by decide) (by decide)) ?_)
  refine L (D_v (R_convB Try.runUnderlying36 rfl) ?_)
  refine L (D_v (R_move rfl) ?_)
  refine L (D_v (R_shrC (z := 24) rfl rfl (by decide) (by decide)) ?_)
  refine L (D_v (R_convB Try.runUnderlying36 rfl) ?_)
  refine L (D_v (R_move rfl) ?_)
  refine L (D_v (R_shrC (z := 16) rfl rfl (by decide) (by decide)) ?_)
  refine L (D_v (R_convB Try.runUnderlying36 rfl) ?_)
  refine L (D_v (R_move rfl) ?_)
  refine L (D_v (R_shrC (z := 8) rfl rfl (by decide) (by decide)) ?_)
  refine L (D_v (R_convB Try.runUnderlying36 rfl) ?_)
  refine L (D_v (R_move rfl) ?_)
  refine L (D_v (R_convB Try.runUnderlying36 rfl) ?_)
  refine L (D_v (R_buildA (vs := [(0, u8 (by8 ((x / 2 ^ 56)))), (1, u8 (by8 ((x / 2 ^ 48)))), (2, u8 (by8 ((x / 2 ^ 40)))), (3, u8 (by8 ((x / 2 ^ 32)))), (4, u8 (by8 ((x / 2 ^ 24)))), (5, u8 (by8 ((x / 2 ^ 16)))), (6, u8 (by8 ((x / 2 ^ 8)))), (7, u8 (by8 (x)))]) (c := (⟨(by8 ((x / 2 ^ 56))), (by8 ((x / 2 ^ 48))), (by8 ((x / 2 ^ 40))), (by8 ((x / 2 ^ 32))), (by8 ((x / 2 ^ 24))), (by8 ((x / 2 ^ 16))), (by8 ((x / 2 ^ 8))), (by8 (x))⟩ : Nm).l) Try.runUnderlying24 Try.sizeOf5 Try.zeroValue24 rfl (fill24 _ _ _ _ _ _ _ _)) ?_)
  refine L (D_storeA Try.sizeOf24 hB1 rfl rfl rfl rfl rfl (l' := ((⟨(by8 ((x / 2 ^ 56))), (by8 ((x / 2 ^ 48))), (by8 ((x / 2 ^ 40))), (by8 ((x / 2 ^ 32))), (by8 ((x / 2 ^ 24))), (by8 ((x / 2 ^ 16))), (by8 ((x / 2 ^ 8))), (by8 (x))⟩ : Nm)).l) rfl (fun w2 k2 hB1 => ?_))
  replace hE := hE.kp k2 lB1
  refine S_nil ?_
  refine T_tn ?_
  refine wp_ret ?_
  refine retc (c := ((⟨(by8 ((x / 2 ^ 56))), (by8 ((x / 2 ^ 48))), (by8 ((x / 2 ^ 40))), (by8 ((x / 2 ^ 32))), (by8 ((x / 2 ^ 24))), (by8 ((x / 2 ^ 16))), (by8 ((x / 2 ^ 8))), (by8 (x))⟩ : Nm)).l) rfl rfl Try.isAgg24 Try.sizeOf24 hB1 rfl rfl ⟨?_, hE⟩
  rfl

-- forkledger/hash.word
set_option maxRecDepth 4000 in
set_option maxHeartbeats 1000000 in
theorem c111 (v : Value) (b : List UInt8) (w : World) (h : Bs w v b) (hb : b.length ≤ 140737488355328) : Calls Try.prog 111 [v].toArray w (Ret w (.int .u64 (word b))) := by
  refine enter Try.func111 Try.ntmps111 rfl rfl ?_
  have hE := Ext.refl w
  refine wp_seq ?_
  refine W_region ?_
  refine L (D_v (R_assign rfl) ?_)
  refine S_nil ?_
  refine T_tn ?_
  refine wp_seq ?_
  refine wp_seq ?_
  refine W_region ?_
  refine L (D_v (R_move rfl) ?_)
  refine L (D_v (R_len Try.underlying31 rfl (h.ext hE)) ?_)
  refine L (D_v (R_geqI rfl rfl) ?_)
  refine S_nil ?_
  refine T_tn ?_
  refine W_if rfl (fun c1 => ?_) (fun c1 => ?_)
  ·
    have lkc1 : (8 ≤ b.length) := by simp at c1; omega
    refine wp_seq ?_
    refine W_draw mixed (by kernel_rfl) ?_
    refine Q_v (fun w hw => R_move rfl) ?_
    refine Q_v (fun w hw => R_elAddr (i := 0) Try.underlying31 Try.sizeOf5 rfl rfl (h.ext (hE.trans hw)) (by (try simp only [List.length_take, List.length_drop, List.length_append, List.length_cons, List.length_nil, Nm.b_len, be2_len]); omega)) ?_
    refine Q_v (fun w hw => R_loadEl Try.isAgg5 rfl (h.ext (hE.trans hw)) (bl_get (by (try simp only [List.length_take, List.length_drop, List.length_append, List.length_cons, List.length_nil, Nm.b_len, be2_len]); omega))) ?_
    refine Q_v (fun w hw => R_convU (b := ((b).getD 0 0)) Try.runUnderlying36 (by decide) rfl) ?_
    refine Q_v (fun w hw => R_shlC (z := 56) rfl rfl (by decide) (by decide)) ?_
    refine Q_v (fun w hw => R_move rfl) ?_
    refine Q_v (fun w hw => R_elAddr (i := 1) Try.underlying31 Try.sizeOf5 rfl rfl (h.ext (hE.trans hw)) (by (try simp only [List.length_take, List.length_drop, List.length_append, List.length_cons, List.length_nil, Nm.b_len, be2_len]); omega)) ?_
    refine Q_v (fun w hw => R_loadEl Try.isAgg5 rfl (h.ext (hE.trans hw)) (bl_get (by (try simp only [List.length_take, List.length_drop, List.length_append, List.length_cons, List.length_nil, Nm.b_len, be2_len]); omega))) ?_
    refine Q_v (fun w hw => R_convU (b := ((b).getD 1 0)) Try.runUnderlying36 (by decide) rfl) ?_
    refine Q_v (fun w hw => R_shlC (z := 48) rfl rfl (by decide) (by decide)) ?_
    refine Q_v (fun w hw => R_orI rfl rfl) ?_
    refine Q_v (fun w hw => R_move rfl) ?_
    refine Q_v (fun w hw => R_elAddr (i := 2) Try.underlying31 Try.sizeOf5 rfl rfl (h.ext (hE.trans hw)) (by (try simp only [List.length_take, List.length_drop, List.length_append, List.length_cons, List.length_nil, Nm.b_len, be2_len]); omega)) ?_
    refine Q_v (fun w hw => R_loadEl Try.isAgg5 rfl (h.ext (hE.trans hw)) (bl_get (by (try simp only [List.length_take, List.length_drop, List.length_append, List.length_cons, List.length_nil, Nm.b_len, be2_len]); omega))) ?_
    refine Q_v (fun w hw => R_convU (b := ((b).getD 2 0)) Try.runUnderlying36 (by decide) rfl) ?_
    refine Q_v (fun w hw => R_shlC (z := 40) rfl rfl (by decide) (by decide)) ?_
    refine Q_v (fun w hw => R_orI rfl rfl) ?_
    refine Q_v (fun w hw => R_move rfl) ?_
    refine Q_v (fun w hw => R_elAddr (i := 3) Try.underlying31 Try.sizeOf5 rfl rfl (h.ext (hE.trans hw)) (by (try simp only [List.length_take, List.length_drop, List.length_append, List.length_cons, List.length_nil, Nm.b_len, be2_len]); omega)) ?_
    refine Q_v (fun w hw => R_loadEl Try.isAgg5 rfl (h.ext (hE.trans hw)) (bl_get (by (try simp only [List.length_take, List.length_drop, List.length_append, List.length_cons, List.length_nil, Nm.b_len, be2_len]); omega))) ?_
    refine Q_v (fun w hw => R_convU (b := ((b).getD 3 0)) Try.runUnderlying36 (by decide) rfl) ?_
    refine Q_v (fun w hw => R_shlC (z := 32) rfl rfl (by decide) (by decide)) ?_
    refine Q_v (fun w hw => R_orI rfl rfl) ?_
    refine Q_v (fun w hw => R_move rfl) ?_
    refine Q_v (fun w hw => R_elAddr (i := 4) Try.underlying31 Try.sizeOf5 rfl rfl (h.ext (hE.trans hw)) (by (try simp only [List.length_take, List.length_drop, List.length_append, List.length_cons, List.length_nil, Nm.b_len, be2_len]); omega)) ?_
    refine Q_v (fun w hw => R_loadEl Try.isAgg5 rfl (h.ext (hE.trans hw)) (bl_get (by (try simp only [List.length_take, List.length_drop, List.length_append, List.length_cons, List.length_nil, Nm.b_len, be2_len]); omega))) ?_
    refine Q_v (fun w hw => R_convU (b := ((b).getD 4 0)) Try.runUnderlying36 (by decide) rfl) ?_
    refine Q_v (fun w hw => R_shlC (z := 24) rfl rfl (by decide) (by decide)) ?_
    refine Q_v (fun w hw => R_orI rfl rfl) ?_
    refine Q_v (fun w hw => R_move rfl) ?_
    refine Q_v (fun w hw => R_elAddr (i := 5) Try.underlying31 Try.sizeOf5 rfl rfl (h.ext (hE.trans hw)) (by (try simp only [List.length_take, List.length_drop, List.length_append, List.length_cons, List.length_nil, Nm.b_len, be2_len]); omega)) ?_
    refine Q_v (fun w hw => R_loadEl Try.isAgg5 rfl (h.ext (hE.trans hw)) (bl_get (by (try simp only [List.length_take, List.length_drop, List.length_append, List.length_cons, List.length_nil, Nm.b_len, be2_len]); omega))) ?_
    refine Q_v (fun w hw => R_convU (b := ((b).getD 5 0)) Try.runUnderlying36 (by decide) rfl) ?_
    refine Q_v (fun w hw => R_shlC (z := 16) rfl rfl (by decide) (by decide)) ?_
    refine Q_v (fun w hw => R_orI rfl rfl) ?_
    refine Q_v (fun w hw => R_move rfl) ?_
    refine Q_v (fun w hw => R_elAddr (i := 6) Try.underlying31 Try.sizeOf5 rfl rfl (h.ext (hE.trans hw)) (by (try simp only [List.length_take, List.length_drop, List.length_append, List.length_cons, List.length_nil, Nm.b_len, be2_len]); omega)) ?_
    refine Q_v (fun w hw => R_loadEl Try.isAgg5 rfl (h.ext (hE.trans hw)) (bl_get (by (try simp only [List.length_take, List.length_drop, List.length_append, List.length_cons, List.length_nil, Nm.b_len, be2_len]); omega))) ?_
    refine Q_v (fun w hw => R_convU (b := ((b).getD 6 0)) Try.runUnderlying36 (by decide) rfl) ?_
    refine Q_v (fun w hw => R_shlC (z := 8) rfl rfl (by decide) (by decide)) ?_
    refine Q_v (fun w hw => R_orI rfl rfl) ?_
    refine Q_v (fun w hw => R_move rfl) ?_
    refine Q_v (fun w hw => R_elAddr (i := 7) Try.underlying31 Try.sizeOf5 rfl rfl (h.ext (hE.trans hw)) (by (try simp only [List.length_take, List.length_drop, List.length_append, List.length_cons, List.length_nil, Nm.b_len, be2_len]); omega)) ?_
    refine Q_v (fun w hw => R_loadEl Try.isAgg5 rfl (h.ext (hE.trans hw)) (bl_get (by (try simp only [List.length_take, List.length_drop, List.length_append, List.length_cons, List.length_nil, Nm.b_len, be2_len]); omega))) ?_
    refine Q_v (fun w hw => R_convU (b := ((b).getD 7 0)) Try.runUnderlying36 (by decide) rfl) ?_
    refine Q_v (fun w hw => R_orI rfl rfl) ?_
    refine Q_v (fun w hw => R_assign rfl) ?_
    refine Q_nil (fun w1 e2 => ?_)
    replace hE := hE.trans e2
    refine T_tn ?_
    refine wp_ret ?_
    refine T_tr ?_
    refine ret1 (v := .int _ _) rfl rfl ⟨?_, hE⟩
    exact congrArg (fun z => Ending.returned (Value.int .u64 z)) (word_long b)
  ·
    have lkc1 : ¬ (8 ≤ b.length) := by simp at c1; omega
    refine wp_skip ?_
    refine T_tn ?_
    refine wp_seq ?_
    refine W_region ?_
    refine L (D_alloc (c := (Nm.zero).l) Try.zeroValue24 rfl (fun aB1 w2 e3 gB1 hB1 => ?_))
    have lB1 := Nat.le_trans hE.size gB1
    replace hE := hE.trans e3
    refine S_nil ?_
    refine T_tn ?_
    refine wp_seq ?_
    refine W_region ?_
    refine L (D_v (R_sliceArr (len := 7) Try.underlying24 Try.sizeOf5 rfl) ?_)
    refine L (D_v (R_move rfl) ?_)
    refine L (D_copyBlk (l' := ((padN b)).l) Try.underlying31 Try.sizeOf5 rfl rfl hB1 rfl (h.ext hE) (bl_plain _) (pad_copy b (by omega)) (fun w3 k4 hB1 => ?_))
    replace hE := hE.kp k4 lB1
    refine S_nil ?_
    refine T_tn ?_
    refine wp_seq ?_
    refine W_region ?_
    refine L (D_v (R_loadA (c := ((padN b)).l) Try.isAgg24 Try.sizeOf24 hB1 rfl rfl rfl) ?_)
    refine L (D_call (R_callF Try.call108 rfl rfl) (c108 ((padN b)) _ ) (fun w4 e5 => ?_))
    replace hE := hE.trans e5
    replace hB1 := hB1.ext e5
    refine L (D_v (R_assign rfl) ?_)
    refine S_nil ?_
    refine T_tn ?_
    refine wp_ret ?_
    refine ret1 (v := .int _ _) rfl rfl ⟨?_, hE⟩
    rfl

-- forkledger/forkledgerref1.word
set_option maxRecDepth 4000 in
set_option maxHeartbeats 1000000 in
theorem c136 (v : Value) (b : List UInt8) (w : World) (h : Bs w v b) (hb : b.length ≤ 140737488355328) : Calls Try.prog 136 [v].toArray w (Ret w (.int .u64 (word b))) := by
  refine enter Try.func136 Try.ntmps136 rfl rfl ?_
  have hE := Ext.refl w
  refine wp_seq ?_
  refine W_region ?_
  refine L (D_v (R_assign rfl) ?_)
  refine S_nil ?_
  refine T_tn ?_
  refine wp_seq ?_
  refine wp_seq ?_
  refine W_region ?_
  refine L (D_v (R_move rfl) ?_)
  refine L (D_v (R_len Try.underlying31 rfl (h.ext hE)) ?_)
  refine L (D_v (R_geqI rfl rfl) ?_)
  refine S_nil ?_
  refine T_tn ?_
  refine W_if rfl (fun c1 => ?_) (fun c1 => ?_)
  ·
    have lkc1 : (8 ≤ b.length) := by simp at c1; omega
    refine wp_seq ?_
    refine W_draw mixed (by kernel_rfl) ?_
    refine Q_v (fun w hw => R_move rfl) ?_
    refine Q_v (fun w hw => R_elAddr (i := 0) Try.underlying31 Try.sizeOf5 rfl rfl (h.ext (hE.trans hw)) (by (try simp only [List.length_take, List.length_drop, List.length_append, List.length_cons, List.length_nil, Nm.b_len, be2_len]); omega)) ?_
    refine Q_v (fun w hw => R_loadEl Try.isAgg5 rfl (h.ext (hE.trans hw)) (bl_get (by (try simp only [List.length_take, List.length_drop, List.length_append, List.length_cons, List.length_nil, Nm.b_len, be2_len]); omega))) ?_
    refine Q_v (fun w hw => R_convU (b := ((b).getD 0 0)) Try.runUnderlying36 (by decide) rfl) ?_
    refine Q_v (fun w hw => R_shlC (z := 56) rfl rfl (by decide) (by decide)) ?_
    refine Q_v (fun w hw => R_move rfl) ?_
    refine Q_v (fun w hw => R_elAddr (i := 1) Try.underlying31 Try.sizeOf5 rfl rfl (h.ext (hE.trans hw)) (by (try simp only [List.length_take, List.length_drop, List.length_append, List.length_cons, List.length_nil, Nm.b_len, be2_len]); omega)) ?_
    refine Q_v (fun w hw => R_loadEl Try.isAgg5 rfl (h.ext (hE.trans hw)) (bl_get (by (try simp only [List.length_take, List.length_drop, List.length_append, List.length_cons, List.length_nil, Nm.b_len, be2_len]); omega))) ?_
    refine Q_v (fun w hw => R_convU (b := ((b).getD 1 0)) Try.runUnderlying36 (by decide) rfl) ?_
    refine Q_v (fun w hw => R_shlC (z := 48) rfl rfl (by decide) (by decide)) ?_
    refine Q_v (fun w hw => R_orI rfl rfl) ?_
    refine Q_v (fun w hw => R_move rfl) ?_
    refine Q_v (fun w hw => R_elAddr (i := 2) Try.underlying31 Try.sizeOf5 rfl rfl (h.ext (hE.trans hw)) (by (try simp only [List.length_take, List.length_drop, List.length_append, List.length_cons, List.length_nil, Nm.b_len, be2_len]); omega)) ?_
    refine Q_v (fun w hw => R_loadEl Try.isAgg5 rfl (h.ext (hE.trans hw)) (bl_get (by (try simp only [List.length_take, List.length_drop, List.length_append, List.length_cons, List.length_nil, Nm.b_len, be2_len]); omega))) ?_
    refine Q_v (fun w hw => R_convU (b := ((b).getD 2 0)) Try.runUnderlying36 (by decide) rfl) ?_
    refine Q_v (fun w hw => R_shlC (z := 40) rfl rfl (by decide) (by decide)) ?_
    refine Q_v (fun w hw => R_orI rfl rfl) ?_
    refine Q_v (fun w hw => R_move rfl) ?_
    refine Q_v (fun w hw => R_elAddr (i := 3) Try.underlying31 Try.sizeOf5 rfl rfl (h.ext (hE.trans hw)) (by (try simp only [List.length_take, List.length_drop, List.length_append, List.length_cons, List.length_nil, Nm.b_len, be2_len]); omega)) ?_
    refine Q_v (fun w hw => R_loadEl Try.isAgg5 rfl (h.ext (hE.trans hw)) (bl_get (by (try simp only [List.length_take, List.length_drop, List.length_append, List.length_cons, List.length_nil, Nm.b_len, be2_len]); omega))) ?_
    refine Q_v (fun w hw => R_convU (b := ((b).getD 3 0)) Try.runUnderlying36 (by decide) rfl) ?_
    refine Q_v (fun w hw => R_shlC (z := 32) rfl rfl (by decide) (by decide)) ?_
    refine Q_v (fun w hw => R_orI rfl rfl) ?_
    refine Q_v (fun w hw => R_move rfl) ?_
    refine Q_v (fun w hw => R_elAddr (i := 4) Try.underlying31 Try.sizeOf5 rfl rfl (h.ext (hE.trans hw)) (by (try simp only [List.length_take, List.length_drop, List.length_append, List.length_cons, List.length_nil, Nm.b_len, be2_len]); omega)) ?_
    refine Q_v (fun w hw => R_loadEl Try.isAgg5 rfl (h.ext (hE.trans hw)) (bl_get (by (try simp only [List.length_take, List.length_drop, List.length_append, List.length_cons, List.length_nil, Nm.b_len, be2_len]); omega))) ?_
    refine Q_v (fun w hw => R_convU (b := ((b).getD 4 0)) Try.runUnderlying36 (by decide) rfl) ?_
    refine Q_v (fun w hw => R_shlC (z := 24) rfl rfl (by decide) (by decide)) ?_
    refine Q_v (fun w hw => R_orI rfl rfl) ?_
    refine Q_v (fun w hw => R_move rfl) ?_
    refine Q_v (fun w hw => R_elAddr (i := 5) Try.underlying31 Try.sizeOf5 rfl rfl (h.ext (hE.trans hw)) (by (try simp only [List.length_take, List.length_drop, List.length_append, List.length_cons, List.length_nil, Nm.b_len, be2_len]); omega)) ?_
    refine Q_v (fun w hw => R_loadEl Try.isAgg5 rfl (h.ext (hE.trans hw)) (bl_get (by (try simp only [List.length_take, List.length_drop, List.length_append, List.length_cons, List.length_nil, Nm.b_len, be2_len]); omega))) ?_
    refine Q_v (fun w hw => R_convU (b := ((b).getD 5 0)) Try.runUnderlying36 (by decide) rfl) ?_
    refine Q_v (fun w hw => R_shlC (z := 16) rfl rfl (by decide) (by decide)) ?_
    refine Q_v (fun w hw => R_orI rfl rfl) ?_
    refine Q_v (fun w hw => R_move rfl) ?_
    refine Q_v (fun w hw => R_elAddr (i := 6) Try.underlying31 Try.sizeOf5 rfl rfl (h.ext (hE.trans hw)) (by (try simp only [List.length_take, List.length_drop, List.length_append, List.length_cons, List.length_nil, Nm.b_len, be2_len]); omega)) ?_
    refine Q_v (fun w hw => R_loadEl Try.isAgg5 rfl (h.ext (hE.trans hw)) (bl_get (by (try simp only [List.length_take, List.length_drop, List.length_append, List.length_cons, List.length_nil, Nm.b_len, be2_len]); omega))) ?_
    refine Q_v (fun w hw => R_convU (b := ((b).getD 6 0)) Try.runUnderlying36 (by decide) rfl) ?_
    refine Q_v (fun w hw => R_shlC (z := 8) rfl rfl (by decide) (by decide)) ?_
    refine Q_v (fun w hw => R_orI rfl rfl) ?_
    refine Q_v (fun w hw => R_move rfl) ?_
    refine Q_v (fun w hw => R_elAddr (i := 7) Try.underlying31 Try.sizeOf5 rfl rfl (h.ext (hE.trans hw)) (by (try simp only [List.length_take, List.length_drop, List.length_append, List.length_cons, List.length_nil, Nm.b_len, be2_len]); omega)) ?_
    refine Q_v (fun w hw => R_loadEl Try.isAgg5 rfl (h.ext (hE.trans hw)) (bl_get (by (try simp only [List.length_take, List.length_drop, List.length_append, List.length_cons, List.length_nil, Nm.b_len, be2_len]); omega))) ?_
    refine Q_v (fun w hw => R_convU (b := ((b).getD 7 0)) Try.runUnderlying36 (by decide) rfl) ?_
    refine Q_v (fun w hw => R_orI rfl rfl) ?_
    refine Q_v (fun w hw => R_assign rfl) ?_
    refine Q_nil (fun w1 e2 => ?_)
    replace hE := hE.trans e2
    refine T_tn ?_
    refine wp_ret ?_
    refine T_tr ?_
    refine ret1 (v := .int _ _) rfl rfl ⟨?_, hE⟩
    exact congrArg (fun z => Ending.returned (Value.int .u64 z)) (word_long b)
  ·
    have lkc1 : ¬ (8 ≤ b.length) := by simp at c1; omega
    refine wp_skip ?_
    refine T_tn ?_
    refine wp_seq ?_
    refine W_region ?_
    refine L (D_v (R_assign rfl) ?_)
    refine S_nil ?_
    refine T_tn ?_
    refine wp_seq ?_
    refine wp_seq ?_
    refine W_region ?_
    refine L (D_v (R_assign rfl) ?_)
    refine S_nil ?_
    refine T_tn ?_
    refine wp_block ?_
    refine W_loop (fun m g W => ∃ (i : Nat), m = b.length - i ∧ g 0 = v ∧ g 3 = .int .u64 (pw b i : Int) ∧ g 4 = i64 (i : Int) ∧ Ext w W ∧ i ≤ b.length) ⟨0, rfl, rfl, rfl, rfl, hE, Nat.zero_le _⟩ ?_
    clear hE 
    rintro m f2 w2 ⟨i, hm, q0, q3, q4, hE, hi⟩
    subst hm
    refine wp_seq ?_
    refine wp_seq ?_
    refine W_region ?_
    refine L (D_v (R_move q4) ?_)
    refine L (D_v (R_move q0) ?_)
    refine L (D_v (R_len Try.underlying31 rfl (h.ext hE)) ?_)
    refine L (D_v (R_lssI rfl rfl) ?_)
    refine S_nil ?_
    refine T_tn ?_
    refine W_if rfl (fun c5 => ?_) (fun c5 => ?_)
    ·
      have lkc5 : i < b.length := by simpa using c5
      refine wp_skip ?_
      refine T_tn ?_
      refine wp_seq ?_
      refine wp_block ?_
      refine W_region ?_
      refine L (D_v (R_move q3) ?_)
      refine L (D_v (R_move q0) ?_)
      refine L (D_v (R_move q4) ?_)
      refine L (D_v (R_elAddr (i := i) Try.underlying31 Try.sizeOf5 rfl rfl (h.ext hE) (by (try simp only [List.length_take, List.length_drop, List.length_append, List.length_cons, List.length_nil, Nm.b_len, be2_len]); omega)) ?_)
      refine L (D_v (R_loadEl Try.isAgg5 rfl (h.ext hE) (bl_get (by (try simp only [List.length_take, List.length_drop, List.length_append, List.length_cons, List.length_nil, Nm.b_len, be2_len]); omega))) ?_)
      refine L (D_v (R_convU (b := ((b).getD i 0)) Try.runUnderlying36 (by decide) rfl) ?_)
      refine L (D_v (R_move q4) ?_)
      refine L (D_v (R_mulN (m := 8) (j := i) rfl rfl (by (try simp only [List.length_take, List.length_drop, List.length_append, List.length_cons, List.length_nil, Nm.b_len, be2_len]); omega)) ?_)
      refine L (D_v (R_subN (m := 56) (j := (8 * i)) rfl rfl (by (try simp only [List.length_take, List.length_drop, List.length_append, List.length_cons, List.length_nil, Nm.b_len, be2_len]); omega) (by (try simp only [List.length_take, List.length_drop, List.length_append, List.length_cons, List.length_nil, Nm.b_len, be2_len]); omega)) ?_)
      refine L (D_v (R_conv Try.runUnderlying3 Try.runUnderlying83 rfl) ?_)
      refine L (D_v (R_shlN (e := (56 - (8 * i))) rfl rfl (by omega) (by decide)) ?_)
      refine L (D_v (R_orI rfl rfl) ?_)
      refine L (D_v (R_assign rfl) ?_)
      refine S_nil ?_
      refine T_bn ?_
      refine T_tn ?_
      refine W_region ?_
      refine L (D_v (R_move q4) ?_)
      refine L (D_v (R_addN (m := i) (j := 1) rfl rfl (by (try simp only [List.length_take, List.length_drop, List.length_append, List.length_cons, List.length_nil, Nm.b_len, be2_len]); omega)) ?_)
      refine L (D_v (R_assign rfl) ?_)
      refine S_nil ?_
      refine T_tn ?_
      refine ⟨_, _, ?_, rfl, i + 1, rfl, q0, ?_, rfl, hE, ?_⟩
      all_goals first | omega | exact congrArg (Value.int .u64) (or_pw b i (by omega))
    ·
      have lkc5 : ¬ i < b.length := by simpa using c5
      refine wp_exit ?_
      refine T_te ?_
      refine T_te ?_
      refine T_be ?_
      refine T_tn ?_
      refine wp_seq ?_
      refine W_region ?_
      refine L (D_v (R_move q3) ?_)
      refine L (D_v (R_assign rfl) ?_)
      refine S_nil ?_
      refine T_tn ?_
      refine wp_ret ?_
      refine ret1 (v := .int _ _) rfl rfl ⟨?_, hE⟩
      obtain rfl : i = b.length := by omega
      exact congrArg (fun z => Ending.returned (Value.int .u64 z)) (word_short b (by omega))

-- forkledger/hash.Sum
set_option maxRecDepth 4000 in
set_option maxHeartbeats 4000000 in
theorem c87 (v : Value) (b : List UInt8) (w : World) (h : Bs w v b) (hb : b.length ≤ 140737488355328) : Calls Try.prog 87 [v].toArray w (Ret w (hashB b).v) := by
  refine enter Try.func87 Try.ntmps87 rfl rfl ?_
  have hE := Ext.refl w
  refine wp_seq ?_
  refine W_region ?_
  refine L (D_alloc (c := (Nm.zero).l) Try.zeroValue24 rfl (fun aB1 w1 e1 gB1 hB1 => ?_))
  have lB1 := Nat.le_trans hE.size gB1
  replace hE := hE.trans e1
  refine S_nil ?_
  refine T_tn ?_
  refine wp_seq ?_
  refine W_region ?_
  refine L (D_v (R_buildS (vs := [(0, .int .u64 (2611923443488327891)), (1, .int .u64 (1376283091369227076))]) (c := [.int .u64 (2611923443488327891), .int .u64 (1376283091369227076)]) Try.runUnderlying123 places123 Try.zeroValue123 rfl rfl) ?_)
  refine L (D_alloc Try.zeroValue123 rfl (fun aB2 w2 e2 gB2 hB2 => ?_))
  have lB2 := Nat.le_trans hE.size gB2
  have nB1B2 := hB1.ne gB2
  replace hE := hE.trans e2
  replace hB1 := hB1.ext e2
  refine L (D_storeA Try.sizeOf123 hB2 rfl rfl rfl rfl rfl (l' := [.int .u64 (2611923443488327891), .int .u64 (1376283091369227076)]) rfl (fun w3 k3 hB2 => ?_))
  replace hE := hE.kp k3 lB2
  replace hB1 := hB1.kp k3 nB1B2
  refine S_nil ?_
  refine T_tn ?_
  refine wp_seq ?_
  refine wp_seq ?_
  refine W_region ?_
  refine L (D_v (R_assign rfl) ?_)
  refine S_nil ?_
  refine T_tn ?_
  refine wp_block ?_
  refine W_loop (fun m g W => ∃ (X Y : Int) (i : Nat), m = b.length + 8 - i ∧ g 0 = v ∧ g 2 = .pointer (some ⟨aB1, 0, none⟩) ∧ g 3 = .pointer (some ⟨aB2, 0, none⟩) ∧ g 4 = i64 (i : Int) ∧ Ext w W ∧ Blk W aB1 (Nm.zero).l 24 ∧ Blk W aB2 [.int .u64 X, .int .u64 Y] 123 ∧ i ≤ b.length + 8 ∧ sm b ((b.length + 7 - i) / 8) i (X, Y) = sm b ((b.length + 7) / 8) 0 (2611923443488327891, 1376283091369227076)) ⟨_, _, 0, rfl, rfl, rfl, rfl, rfl, hE, hB1, hB2, Nat.zero_le _, rfl⟩ ?_
  clear hE hB1 hB2
  rintro m f4 w4 ⟨X, Y, i, hm, q0, q2, q3, q4, hE, hB1, hB2, hi, hsm⟩
  subst hm
  refine wp_seq ?_
  refine wp_seq ?_
  refine W_region ?_
  refine L (D_v (R_move q4) ?_)
  refine L (D_v (R_move q0) ?_)
  refine L (D_v (R_len Try.underlying31 rfl (h.ext hE)) ?_)
  refine L (D_v (R_lssI rfl rfl) ?_)
  refine S_nil ?_
  refine T_tn ?_
  refine W_if rfl (fun c6 => ?_) (fun c6 => ?_)
  ·
    have lkc6 : i < b.length := by simpa using c6
    refine wp_skip ?_
    refine T_tn ?_
    refine wp_seq ?_
    refine wp_block ?_
    refine wp_seq ?_
    refine W_held (fun W => Ext w W ∧ Blk W aB1 (Nm.zero).l 24 ∧ True) mixed (fun w5 e7 => ?_)
    replace hE := hE.trans e7
    replace hB1 := hB1.ext e7
    replace hB2 := hB2.ext e7
    refine H_take (i := 0) rfl (by kernel_rfl) (by kernel_rfl) (by kernel_rfl) rfl (pq_then (pq_block (pq_then (pq_then (pq_block (pq_then pq_body)))))) ⟨hE, hB1, trivial⟩ rfl (fun w hw => R_fieldAddr Try.runUnderlying123 rfl Try.sizeOf36 q3) ?_
    refine H_take (i := 2) rfl (by kernel_rfl) (by kernel_rfl) (by kernel_rfl) rfl (pq_then (pq_block (pq_then (pq_then (pq_block (pq_then pq_body)))))) ⟨hE, hB1, trivial⟩ rfl (fun w hw => R_move q0) ?_
    refine H_take (i := 3) rfl (by kernel_rfl) (by kernel_rfl) (by kernel_rfl) rfl (pq_then (pq_block (pq_then (pq_then (pq_block (pq_then pq_body)))))) ⟨hE, hB1, trivial⟩ rfl (fun w hw => R_move q4) ?_
    refine H_take (i := 4) rfl (by kernel_rfl) (by kernel_rfl) (by kernel_rfl) rfl (pq_then (pq_block (pq_then (pq_then (pq_block (pq_then pq_body)))))) ⟨hE, hB1, trivial⟩ rfl (fun w hw => R_sliceLo (i := i) Try.underlying31 Try.sizeOf5 rfl rfl (h.ext hw.1) (by (try simp only [List.length_take, List.length_drop, List.length_append, List.length_cons, List.length_nil, Nm.b_len, be2_len]); omega)) ?_
    refine H_op2 (i := 1) (i2 := 5) (by kernel_rfl) rfl rfl rfl rfl ?_ ?_
    ·
      refine D_v (R_load Try.isAgg36 hB2 rfl rfl) ⟨⟨hE, hB1, trivial⟩, ?_⟩
      refine H_op (i := 5) (by kernel_rfl) rfl rfl (D_call (R_callF Try.call111 rfl rfl) (c111 (cutV v 1 (i) ((b).length)) ((((b).drop (i)).take ((b).length - i))) _ ((h.ext hE).cut (by (try simp only [List.length_take, List.length_drop, List.length_append, List.length_cons, List.length_nil, Nm.b_len, be2_len]); omega) (by (try simp only [List.length_take, List.length_drop, List.length_append, List.length_cons, List.length_nil, Nm.b_len, be2_len]); omega)) (by (try simp only [List.length_take, List.length_drop, List.length_append, List.length_cons, List.length_nil, Nm.b_len, be2_len]); omega)) (fun w6 e8 => ?_))
      replace hE := hE.trans e8
      replace hB1 := hB1.ext e8
      replace hB2 := hB2.ext e8
      refine ⟨⟨hE, hB1, trivial⟩, ?_⟩
      refine H_take (i := 6) rfl (by kernel_rfl) (by kernel_rfl) (by kernel_rfl) rfl (pq_then (pq_block (pq_then (pq_then (pq_block (pq_then pq_body)))))) ⟨hE, hB1, trivial⟩ rfl (fun w hw => R_xorI rfl rfl) ?_
      refine H_take (i := 7) rfl (by kernel_rfl) (by kernel_rfl) (by kernel_rfl) rfl (pq_then (pq_block (pq_then (pq_then (pq_block (pq_then pq_body)))))) ⟨hE, hB1, trivial⟩ rfl (fun w hw => R_fieldAddr Try.runUnderlying123 rfl Try.sizeOf36 q3) ?_
      refine H_op (i := 8) (by kernel_rfl) rfl rfl (D_store1 Try.sizeOf36 hB2 rfl rfl rfl rfl (fun w7 k9 (hB2 : Blk w7 aB2 [.int .u64 (bits .xor .u64 X (word (((b).drop (i)).take ((b).length - i)))), .int .u64 Y] 123) => ?_))
      replace hE := hE.kp k9 lB2
      replace hB1 := hB1.kp k9 nB1B2
      refine ⟨⟨hE, hB1, trivial⟩, ?_⟩
      refine H_done (by kernel_rfl) ?_
      refine T_tn ?_
      refine W_region ?_
      refine L (D_callM (R_callF Try.call112 (mapv2 q3 rfl) rfl) (c112 _ 2 (by decide) _ _ _ hB2) (fun w8 e10 hB2 => ?_))
      replace hE := hE.chg e10 lB2
      replace hB1 := hB1.chg e10 nB1B2
      refine S_nil ?_
      refine T_bn ?_
      refine T_tn ?_
      refine W_region ?_
      refine L (D_v (R_move q4) ?_)
      refine L (D_v (R_addN (m := i) (j := 8) rfl rfl (by (try simp only [List.length_take, List.length_drop, List.length_append, List.length_cons, List.length_nil, Nm.b_len, be2_len]); omega)) ?_)
      refine L (D_v (R_assign rfl) ?_)
      refine S_nil ?_
      refine T_tn ?_
      refine ⟨_, _, ?_, rfl, _, _, i + 8, rfl, q0, q2, q3, rfl, hE, hB1, hB2, ?_, ?_⟩
      all_goals first | omega | exact sm_step b hsm (by assumption)
    ·
      refine D_call (R_callF Try.call111 rfl rfl) (c111 (cutV v 1 (i) ((b).length)) ((((b).drop (i)).take ((b).length - i))) _ ((h.ext hE).cut (by (try simp only [List.length_take, List.length_drop, List.length_append, List.length_cons, List.length_nil, Nm.b_len, be2_len]); omega) (by (try simp only [List.length_take, List.length_drop, List.length_append, List.length_cons, List.length_nil, Nm.b_len, be2_len]); omega)) (by (try simp only [List.length_take, List.length_drop, List.length_append, List.length_cons, List.length_nil, Nm.b_len, be2_len]); omega)) (fun w9 e11 => ?_)
      replace hE := hE.trans e11
      replace hB1 := hB1.ext e11
      replace hB2 := hB2.ext e11
      refine ⟨⟨hE, hB1, trivial⟩, ?_⟩
      refine H_op (i := 1) (by kernel_rfl) rfl rfl (D_v (R_load Try.isAgg36 hB2 rfl rfl) ⟨⟨hE, hB1, trivial⟩, ?_⟩)
      refine H_take (i := 6) rfl (by kernel_rfl) (by kernel_rfl) (by kernel_rfl) rfl (pq_then (pq_block (pq_then (pq_then (pq_block (pq_then pq_body)))))) ⟨hE, hB1, trivial⟩ rfl (fun w hw => R_xorI rfl rfl) ?_
      refine H_take (i := 7) rfl (by kernel_rfl) (by kernel_rfl) (by kernel_rfl) rfl (pq_then (pq_block (pq_then (pq_then (pq_block (pq_then pq_body)))))) ⟨hE, hB1, trivial⟩ rfl (fun w hw => R_fieldAddr Try.runUnderlying123 rfl Try.sizeOf36 q3) ?_
      refine H_op (i := 8) (by kernel_rfl) rfl rfl (D_store1 Try.sizeOf36 hB2 rfl rfl rfl rfl (fun w10 k12 (hB2 : Blk w10 aB2 [.int .u64 (bits .xor .u64 X (word (((b).drop (i)).take ((b).length - i)))), .int .u64 Y] 123) => ?_))
      replace hE := hE.kp k12 lB2
      replace hB1 := hB1.kp k12 nB1B2
      refine ⟨⟨hE, hB1, trivial⟩, ?_⟩
      refine H_done (by kernel_rfl) ?_
      refine T_tn ?_
      refine W_region ?_
      refine L (D_callM (R_callF Try.call112 (mapv2 q3 rfl) rfl) (c112 _ 2 (by decide) _ _ _ hB2) (fun w11 e13 hB2 => ?_))
      replace hE := hE.chg e13 lB2
      replace hB1 := hB1.chg e13 nB1B2
      refine S_nil ?_
      refine T_bn ?_
      refine T_tn ?_
      refine W_region ?_
      refine L (D_v (R_move q4) ?_)
      refine L (D_v (R_addN (m := i) (j := 8) rfl rfl (by (try simp only [List.length_take, List.length_drop, List.length_append, List.length_cons, List.length_nil, Nm.b_len, be2_len]); omega)) ?_)
      refine L (D_v (R_assign rfl) ?_)
      refine S_nil ?_
      refine T_tn ?_
      refine ⟨_, _, ?_, rfl, _, _, i + 8, rfl, q0, q2, q3, rfl, hE, hB1, hB2, ?_, ?_⟩
      all_goals first | omega | exact sm_step b hsm (by assumption)
  ·
    have lkc6 : ¬ i < b.length := by simpa using c6
    refine wp_exit ?_
    refine T_te ?_
    refine T_te ?_
    refine T_be ?_
    refine T_tn ?_
    refine wp_seq ?_
    refine W_region ?_
    refine L (D_v (R_fieldAddr Try.runUnderlying123 rfl Try.sizeOf36 q3) ?_)
    refine L (D_v (R_load Try.isAgg36 hB2 rfl rfl) ?_)
    refine L (D_v (R_move q0) ?_)
    refine L (D_v (R_len Try.underlying31 rfl (h.ext hE)) ?_)
    refine L (D_v (R_conv Try.runUnderlying3 Try.runUnderlying36 rfl) ?_)
    refine L (D_v (R_xorI rfl rfl) ?_)
    refine L (D_v (R_fieldAddr Try.runUnderlying123 rfl Try.sizeOf36 q3) ?_)
    refine L (D_store1 Try.sizeOf36 hB2 rfl rfl rfl rfl (fun w12 k14 (hB2 : Blk w12 aB2 [.int .u64 X, .int .u64 (bits .xor .u64 Y (IntKind.wrap .u64 (((b).length : Nat) : Int)))] 123) => ?_))
    replace hE := hE.kp k14 lB2
    replace hB1 := hB1.kp k14 nB1B2
    refine S_nil ?_
    refine T_tn ?_
    refine wp_seq ?_
    refine W_region ?_
    refine L (D_callM (R_callF Try.call112 (mapv2 q3 rfl) rfl) (c112 _ 4 (by decide) _ _ _ hB2) (fun w13 e15 hB2 => ?_))
    replace hE := hE.chg e15 lB2
    replace hB1 := hB1.chg e15 nB1B2
    refine S_nil ?_
    refine T_tn ?_
    refine wp_seq ?_
    refine W_region ?_
    refine L (D_v (R_fieldAddr Try.runUnderlying123 rfl Try.sizeOf36 q3) ?_)
    refine L (D_v (R_load Try.isAgg36 hB2 rfl rfl) ?_)
    refine L (D_v (R_fieldAddr Try.runUnderlying123 rfl Try.sizeOf36 q3) ?_)
    refine L (D_v (R_load Try.isAgg36 hB2 rfl rfl) ?_)
    refine L (D_v (R_xorI rfl rfl) ?_)
    refine L (D_call (R_callF Try.call113 rfl rfl) (c113 (bits .xor .u64 (mx 4 X (bits .xor .u64 Y (IntKind.wrap .u64 (((b).length : Nat) : Int)))).1 (mx 4 X (bits .xor .u64 Y (IntKind.wrap .u64 (((b).length : Nat) : Int)))).2) _) (fun w14 e16 => ?_))
    replace hE := hE.trans e16
    replace hB1 := hB1.ext e16
    replace hB2 := hB2.ext e16
    refine L (D_storeA Try.sizeOf24 hB1 q2 rfl rfl rfl rfl (l' := ((nmOf (bits .xor .u64 (mx 4 X (bits .xor .u64 Y (IntKind.wrap .u64 (((b).length : Nat) : Int)))).1 (mx 4 X (bits .xor .u64 Y (IntKind.wrap .u64 (((b).length : Nat) : Int)))).2))).l) rfl (fun w15 k17 hB1 => ?_))
    replace hE := hE.kp k17 lB1
    replace hB2 := hB2.kp k17 nB1B2.symm
    refine S_nil ?_
    refine T_tn ?_
    refine wp_ret ?_
    refine retc (c := ((nmOf (bits .xor .u64 (mx 4 X (bits .xor .u64 Y (IntKind.wrap .u64 (((b).length : Nat) : Int)))).1 (mx 4 X (bits .xor .u64 Y (IntKind.wrap .u64 (((b).length : Nat) : Int)))).2))).l) rfl q2 Try.isAgg24 Try.sizeOf24 hB1 rfl rfl ⟨?_, hE⟩
    unfold hashB; rw [sm_end b hsm (by assumption)]; rfl

-- forkledger/forkledgerref1.Sum
set_option maxRecDepth 4000 in
set_option maxHeartbeats 4000000 in
theorem c114 (v : Value) (b : List UInt8) (w : World) (h : Bs w v b) (hb : b.length ≤ 140737488355328) : Calls Try.prog 114 [v].toArray w (Ret w (hashB b).v) := by
  refine enter Try.func114 Try.ntmps114 rfl rfl ?_
  have hE := Ext.refl w
  refine wp_seq ?_
  refine W_region ?_
  refine L (D_alloc (c := (Nm.zero).l) Try.zeroValue24 rfl (fun aB1 w1 e1 gB1 hB1 => ?_))
  have lB1 := Nat.le_trans hE.size gB1
  replace hE := hE.trans e1
  refine S_nil ?_
  refine T_tn ?_
  refine wp_seq ?_
  refine W_region ?_
  refine L (D_v (R_assign rfl) ?_)
  refine L (D_v (R_assign rfl) ?_)
  refine S_nil ?_
  refine T_tn ?_
  refine wp_seq ?_
  refine wp_seq ?_
  refine W_region ?_
  refine L (D_v (R_assign rfl) ?_)
  refine S_nil ?_
  refine T_tn ?_
  refine wp_block ?_
  refine W_loop (fun m g W => ∃ (X Y : Int) (i : Nat), m = b.length + 8 - i ∧ g 0 = v ∧ g 2 = .pointer (some ⟨aB1, 0, none⟩) ∧ g 3 = .int .u64 X ∧ g 4 = .int .u64 Y ∧ g 5 = i64 (i : Int) ∧ Ext w W ∧ Blk W aB1 (Nm.zero).l 24 ∧ i ≤ b.length + 8 ∧ sm b ((b.length + 7 - i) / 8) i (X, Y) = sm b ((b.length + 7) / 8) 0 (2611923443488327891, 1376283091369227076)) ⟨_, _, 0, rfl, rfl, rfl, rfl, rfl, rfl, hE, hB1, Nat.zero_le _, rfl⟩ ?_
  clear hE hB1
  rintro m f2 w2 ⟨X, Y, i, hm, q0, q2, q3, q4, q5, hE, hB1, hi, hsm⟩
  subst hm
  refine wp_seq ?_
  refine wp_seq ?_
  refine W_region ?_
  refine L (D_v (R_move q5) ?_)
  refine L (D_v (R_move q0) ?_)
  refine L (D_v (R_len Try.underlying31 rfl (h.ext hE)) ?_)
  refine L (D_v (R_lssI rfl rfl) ?_)
  refine S_nil ?_
  refine T_tn ?_
  refine W_if rfl (fun c4 => ?_) (fun c4 => ?_)
  ·
    have lkc4 : i < b.length := by simpa using c4
    refine wp_skip ?_
    refine T_tn ?_
    refine wp_seq ?_
    refine wp_block ?_
    refine wp_seq ?_
    refine W_region ?_
    refine L (D_v (R_move q3) ?_)
    refine L (D_v (R_move q0) ?_)
    refine L (D_v (R_move q5) ?_)
    refine L (D_v (R_sliceLo (i := i) Try.underlying31 Try.sizeOf5 rfl rfl (h.ext hE) (by (try simp only [List.length_take, List.length_drop, List.length_append, List.length_cons, List.length_nil, Nm.b_len, be2_len]); omega)) ?_)
    refine L (D_call (R_callF Try.call136 rfl rfl) (c136 (cutV v 1 (i) ((b).length)) ((((b).drop (i)).take ((b).length - i))) _ ((h.ext hE).cut (by (try simp only [List.length_take, List.length_drop, List.length_append, List.length_cons, List.length_nil, Nm.b_len, be2_len]); omega) (by (try simp only [List.length_take, List.length_drop, List.length_append, List.length_cons, List.length_nil, Nm.b_len, be2_len]); omega)) (by (try simp only [List.length_take, List.length_drop, List.length_append, List.length_cons, List.length_nil, Nm.b_len, be2_len]); omega)) (fun w3 e5 => ?_))
    replace hE := hE.trans e5
    replace hB1 := hB1.ext e5
    refine L (D_v (R_xorI rfl rfl) ?_)
    refine L (D_v (R_assign rfl) ?_)
    refine S_nil ?_
    refine T_tn ?_
    refine wp_seq ?_
    refine W_region ?_
    refine L (D_v (R_move rfl) ?_)
    refine L (D_v (R_move q4) ?_)
    refine L (D_call (R_callF Try.call137 rfl rfl) (c137 (bits .xor .u64 X (word (((b).drop (i)).take ((b).length - i)))) Y _) (fun w4 e6 => ?_))
    replace hE := hE.trans e6
    replace hB1 := hB1.ext e6
    refine L (D_v (R_move rfl) ?_)
    refine L (D_v (R_extract rfl rfl) ?_)
    refine L (D_v (R_extract rfl rfl) ?_)
    refine L (D_v (R_assign rfl) ?_)
    refine L (D_v (R_assign rfl) ?_)
    refine S_nil ?_
    refine T_tn ?_
    refine W_region ?_
    refine L (D_v (R_move rfl) ?_)
    refine L (D_v (R_move rfl) ?_)
    refine L (D_call (R_callF Try.call137 rfl rfl) (c137 (mxX (bits .xor .u64 X (word (((b).drop (i)).take ((b).length - i)))) Y) (mxY (bits .xor .u64 X (word (((b).drop (i)).take ((b).length - i)))) Y) _) (fun w5 e7 => ?_))
    replace hE := hE.trans e7
    replace hB1 := hB1.ext e7
    refine L (D_v (R_move rfl) ?_)
    refine L (D_v (R_extract rfl rfl) ?_)
    refine L (D_v (R_extract rfl rfl) ?_)
    refine L (D_v (R_assign rfl) ?_)
    refine L (D_v (R_assign rfl) ?_)
    refine S_nil ?_
    refine T_bn ?_
    refine T_tn ?_
    refine W_region ?_
    refine L (D_v (R_move q5) ?_)
    refine L (D_v (R_addN (m := i) (j := 8) rfl rfl (by (try simp only [List.length_take, List.length_drop, List.length_append, List.length_cons, List.length_nil, Nm.b_len, be2_len]); omega)) ?_)
    refine L (D_v (R_assign rfl) ?_)
    refine S_nil ?_
    refine T_tn ?_
    refine ⟨_, _, ?_, rfl, _, _, i + 8, rfl, q0, q2, rfl, rfl, rfl, hE, hB1, ?_, ?_⟩
    all_goals first | omega | exact sm_step b hsm (by assumption)
  ·
    have lkc4 : ¬ i < b.length := by simpa using c4
    refine wp_exit ?_
    refine T_te ?_
    refine T_te ?_
    refine T_be ?_
    refine T_tn ?_
    refine wp_seq ?_
    refine W_region ?_
    refine L (D_v (R_move q4) ?_)
    refine L (D_v (R_move q0) ?_)
    refine L (D_v (R_len Try.underlying31 rfl (h.ext hE)) ?_)
    refine L (D_v (R_conv Try.runUnderlying3 Try.runUnderlying36 rfl) ?_)
    refine L (D_v (R_xorI rfl rfl) ?_)
    refine L (D_v (R_assign rfl) ?_)
    refine S_nil ?_
    refine T_tn ?_
    refine wp_seq ?_
    refine wp_seq ?_
    refine W_region ?_
    refine L (D_v (R_assign rfl) ?_)
    refine S_nil ?_
    refine T_tn ?_
    refine wp_block ?_
    refine W_unroll 4 ?_
    refine W_round ?_
    refine wp_seq ?_
    refine wp_seq ?_
    refine W_region ?_
    refine L (D_v (R_move rfl) ?_)
    refine L (D_v (R_cast (v' := .bool true) (R_lssI rfl rfl) rfl) ?_)
    refine S_nil ?_
    refine T_tn ?_
    refine W_ift rfl ?_
    refine wp_skip ?_
    refine T_tn ?_
    refine wp_seq ?_
    refine wp_block ?_
    refine W_region ?_
    refine L (D_v (R_move q3) ?_)
    refine L (D_v (R_move rfl) ?_)
    refine L (D_call (R_callF Try.call137 rfl rfl) (c137 X (bits .xor .u64 Y (IntKind.wrap .u64 (((b).length : Nat) : Int))) _) (fun w6 e8 => ?_))
    replace hE := hE.trans e8
    replace hB1 := hB1.ext e8
    refine L (D_v (R_move rfl) ?_)
    refine L (D_v (R_extract rfl rfl) ?_)
    refine L (D_v (R_extract rfl rfl) ?_)
    refine L (D_v (R_assign rfl) ?_)
    refine L (D_v (R_assign rfl) ?_)
    refine S_nil ?_
    refine T_bn ?_
    refine T_tn ?_
    refine W_region ?_
    refine L (D_v (R_move rfl) ?_)
    refine L (D_v (R_cast (v' := .int .i64 (1)) (R_addI rfl rfl) rfl) ?_)
    refine L (D_v (R_assign rfl) ?_)
    refine S_nil ?_
    refine T_tn ?_
    refine W_round ?_
    refine wp_seq ?_
    refine wp_seq ?_
    refine W_region ?_
    refine L (D_v (R_move rfl) ?_)
    refine L (D_v (R_cast (v' := .bool true) (R_lssI rfl rfl) rfl) ?_)
    refine S_nil ?_
    refine T_tn ?_
    refine W_ift rfl ?_
    refine wp_skip ?_
    refine T_tn ?_
    refine wp_seq ?_
    refine wp_block ?_
    refine W_region ?_
    refine L (D_v (R_move rfl) ?_)
    refine L (D_v (R_move rfl) ?_)
    refine L (D_call (R_callF Try.call137 rfl rfl) (c137 (mxX X (bits .xor .u64 Y (IntKind.wrap .u64 (((b).length : Nat) : Int)))) (mxY X (bits .xor .u64 Y (IntKind.wrap .u64 (((b).length : Nat) : Int)))) _) (fun w7 e9 => ?_))
    replace hE := hE.trans e9
    replace hB1 := hB1.ext e9
    refine L (D_v (R_move rfl) ?_)
    refine L (D_v (R_extract rfl rfl) ?_)
    refine L (D_v (R_extract rfl rfl) ?_)
    refine L (D_v (R_assign rfl) ?_)
    refine L (D_v (R_assign rfl) ?_)
    refine S_nil ?_
    refine T_bn ?_
    refine T_tn ?_
    refine W_region ?_
    refine L (D_v (R_move rfl) ?_)
    refine L (D_v (R_cast (v' := .int .i64 (2)) (R_addI rfl rfl) rfl) ?_)
    refine L (D_v (R_assign rfl) ?_)
    refine S_nil ?_
    refine T_tn ?_
    refine W_round ?_
    refine wp_seq ?_
    refine wp_seq ?_
    refine W_region ?_
    refine L (D_v (R_move rfl) ?_)
    refine L (D_v (R_cast (v' := .bool true) (R_lssI rfl rfl) rfl) ?_)
    refine S_nil ?_
    refine T_tn ?_
    refine W_ift rfl ?_
    refine wp_skip ?_
    refine T_tn ?_
    refine wp_seq ?_
    refine wp_block ?_
    refine W_region ?_
    refine L (D_v (R_move rfl) ?_)
    refine L (D_v (R_move rfl) ?_)
    refine L (D_call (R_callF Try.call137 rfl rfl) (c137 (mxX (mxX X (bits .xor .u64 Y (IntKind.wrap .u64 (((b).length : Nat) : Int)))) (mxY X (bits .xor .u64 Y (IntKind.wrap .u64 (((b).length : Nat) : Int))))) (mxY (mxX X (bits .xor .u64 Y (IntKind.wrap .u64 (((b).length : Nat) : Int)))) (mxY X (bits .xor .u64 Y (IntKind.wrap .u64 (((b).length : Nat) : Int))))) _) (fun w8 e10 => ?_))
    replace hE := hE.trans e10
    replace hB1 := hB1.ext e10
    refine L (D_v (R_move rfl) ?_)
    refine L (D_v (R_extract rfl rfl) ?_)
    refine L (D_v (R_extract rfl rfl) ?_)
    refine L (D_v (R_assign rfl) ?_)
    refine L (D_v (R_assign rfl) ?_)
    refine S_nil ?_
    refine T_bn ?_
    refine T_tn ?_
    refine W_region ?_
    refine L (D_v (R_move rfl) ?_)
    refine L (D_v (R_cast (v' := .int .i64 (3)) (R_addI rfl rfl) rfl) ?_)
    refine L (D_v (R_assign rfl) ?_)
    refine S_nil ?_
    refine T_tn ?_
    refine W_round ?_
    refine wp_seq ?_
    refine wp_seq ?_
    refine W_region ?_
    refine L (D_v (R_move rfl) ?_)
    refine L (D_v (R_cast (v' := .bool true) (R_lssI rfl rfl) rfl) ?_)
    refine S_nil ?_
    refine T_tn ?_
    refine W_ift rfl ?_
    refine wp_skip ?_
    refine T_tn ?_
    refine wp_seq ?_
    refine wp_block ?_
    refine W_region ?_
    refine L (D_v (R_move rfl) ?_)
    refine L (D_v (R_move rfl) ?_)
    refine L (D_call (R_callF Try.call137 rfl rfl) (c137 (mxX (mxX (mxX X (bits .xor .u64 Y (IntKind.wrap .u64 (((b).length : Nat) : Int)))) (mxY X (bits .xor .u64 Y (IntKind.wrap .u64 (((b).length : Nat) : Int))))) (mxY (mxX X (bits .xor .u64 Y (IntKind.wrap .u64 (((b).length : Nat) : Int)))) (mxY X (bits .xor .u64 Y (IntKind.wrap .u64 (((b).length : Nat) : Int)))))) (mxY (mxX (mxX X (bits .xor .u64 Y (IntKind.wrap .u64 (((b).length : Nat) : Int)))) (mxY X (bits .xor .u64 Y (IntKind.wrap .u64 (((b).length : Nat) : Int))))) (mxY (mxX X (bits .xor .u64 Y (IntKind.wrap .u64 (((b).length : Nat) : Int)))) (mxY X (bits .xor .u64 Y (IntKind.wrap .u64 (((b).length : Nat) : Int)))))) _) (fun w9 e11 => ?_))
    replace hE := hE.trans e11
    replace hB1 := hB1.ext e11
    refine L (D_v (R_move rfl) ?_)
    refine L (D_v (R_extract rfl rfl) ?_)
    refine L (D_v (R_extract rfl rfl) ?_)
    refine L (D_v (R_assign rfl) ?_)
    refine L (D_v (R_assign rfl) ?_)
    refine S_nil ?_
    refine T_bn ?_
    refine T_tn ?_
    refine W_region ?_
    refine L (D_v (R_move rfl) ?_)
    refine L (D_v (R_cast (v' := .int .i64 (4)) (R_addI rfl rfl) rfl) ?_)
    refine L (D_v (R_assign rfl) ?_)
    refine S_nil ?_
    refine T_tn ?_
    refine W_round ?_
    refine wp_seq ?_
    refine wp_seq ?_
    refine W_region ?_
    refine L (D_v (R_move rfl) ?_)
    refine L (D_v (R_cast (v' := .bool false) (R_lssI rfl rfl) rfl) ?_)
    refine S_nil ?_
    refine T_tn ?_
    refine W_iff rfl ?_
    refine wp_exit ?_
    refine T_te ?_
    refine T_te ?_
    refine T_be ?_
    refine T_tn ?_
    refine wp_seq ?_
    refine W_region ?_
    refine L (D_v (R_move rfl) ?_)
    refine L (D_v (R_move rfl) ?_)
    refine L (D_v (R_xorI rfl rfl) ?_)
    refine L (D_call (R_callF Try.call138 rfl rfl) (c138 (bits .xor .u64 (mxX (mxX (mxX (mxX X (bits .xor .u64 Y (IntKind.wrap .u64 (((b).length : Nat) : Int)))) (mxY X (bits .xor .u64 Y (IntKind.wrap .u64 (((b).length : Nat) : Int))))) (mxY (mxX X (bits .xor .u64 Y (IntKind.wrap .u64 (((b).length : Nat) : Int)))) (mxY X (bits .xor .u64 Y (IntKind.wrap .u64 (((b).length : Nat) : Int)))))) (mxY (mxX (mxX X (bits .xor .u64 Y (IntKind.wrap .u64 (((b).length : Nat) : Int)))) (mxY X (bits .xor .u64 Y (IntKind.wrap .u64 (((b).length : Nat) : Int))))) (mxY (mxX X (bits .xor .u64 Y (IntKind.wrap .u64 (((b).length : Nat) : Int)))) (mxY X (bits .xor .u64 Y (IntKind.wrap .u64 (((b).length : Nat) : Int))))))) (mxY (mxX (mxX (mxX X (bits .xor .u64 Y (IntKind.wrap .u64 (((b).length : Nat) : Int)))) (mxY X (bits .xor .u64 Y (IntKind.wrap .u64 (((b).length : Nat) : Int))))) (mxY (mxX X (bits .xor .u64 Y (IntKind.wrap .u64 (((b).length : Nat) : Int)))) (mxY X (bits .xor .u64 Y (IntKind.wrap .u64 (((b).length : Nat) : Int)))))) (mxY (mxX (mxX X (bits .xor .u64 Y (IntKind.wrap .u64 (((b).length : Nat) : Int)))) (mxY X (bits .xor .u64 Y (IntKind.wrap .u64 (((b).length : Nat) : Int))))) (mxY (mxX X (bits .xor .u64 Y (IntKind.wrap .u64 (((b).length : Nat) : Int)))) (mxY X (bits .xor .u64 Y (IntKind.wrap .u64 (((b).length : Nat) : Int)))))))) _) (fun w10 e12 => ?_))
    replace hE := hE.trans e12
    replace hB1 := hB1.ext e12
    refine L (D_storeA Try.sizeOf24 hB1 q2 rfl rfl rfl rfl (l' := ((nmOf (bits .xor .u64 (mxX (mxX (mxX (mxX X (bits .xor .u64 Y (IntKind.wrap .u64 (((b).length : Nat) : Int)))) (mxY X (bits .xor .u64 Y (IntKind.wrap .u64 (((b).length : Nat) : Int))))) (mxY (mxX X (bits .xor .u64 Y (IntKind.wrap .u64 (((b).length : Nat) : Int)))) (mxY X (bits .xor .u64 Y (IntKind.wrap .u64 (((b).length : Nat) : Int)))))) (mxY (mxX (mxX X (bits .xor .u64 Y (IntKind.wrap .u64 (((b).length : Nat) : Int)))) (mxY X (bits .xor .u64 Y (IntKind.wrap .u64 (((b).length : Nat) : Int))))) (mxY (mxX X (bits .xor .u64 Y (IntKind.wrap .u64 (((b).length : Nat) : Int)))) (mxY X (bits .xor .u64 Y (IntKind.wrap .u64 (((b).length : Nat) : Int))))))) (mxY (mxX (mxX (mxX X (bits .xor .u64 Y (IntKind.wrap .u64 (((b).length : Nat) : Int)))) (mxY X (bits .xor .u64 Y (IntKind.wrap .u64 (((b).length : Nat) : Int))))) (mxY (mxX X (bits .xor .u64 Y (IntKind.wrap .u64 (((b).length : Nat) : Int)))) (mxY X (bits .xor .u64 Y (IntKind.wrap .u64 (((b).length : Nat) : Int)))))) (mxY (mxX (mxX X (bits .xor .u64 Y (IntKind.wrap .u64 (((b).length : Nat) : Int)))) (mxY X (bits .xor .u64 Y (IntKind.wrap .u64 (((b).length : Nat) : Int))))) (mxY (mxX X (bits .xor .u64 Y (IntKind.wrap .u64 (((b).length : Nat) : Int)))) (mxY X (bits .xor .u64 Y (IntKind.wrap .u64 (((b).length : Nat) : Int)))))))))).l) rfl (fun w11 k13 hB1 => ?_))
    replace hE := hE.kp k13 lB1
    refine S_nil ?_
    refine T_tn ?_
    refine wp_ret ?_
    refine retc (c := ((nmOf (bits .xor .u64 (mxX (mxX (mxX (mxX X (bits .xor .u64 Y (IntKind.wrap .u64 (((b).length : Nat) : Int)))) (mxY X (bits .xor .u64 Y (IntKind.wrap .u64 (((b).length : Nat) : Int))))) (mxY (mxX X (bits .xor .u64 Y (IntKind.wrap .u64 (((b).length : Nat) : Int)))) (mxY X (bits .xor .u64 Y (IntKind.wrap .u64 (((b).length : Nat) : Int)))))) (mxY (mxX (mxX X (bits .xor .u64 Y (IntKind.wrap .u64 (((b).length : Nat) : Int)))) (mxY X (bits .xor .u64 Y (IntKind.wrap .u64 (((b).length : Nat) : Int))))) (mxY (mxX X (bits .xor .u64 Y (IntKind.wrap .u64 (((b).length : Nat) : Int)))) (mxY X (bits .xor .u64 Y (IntKind.wrap .u64 (((b).length : Nat) : Int))))))) (mxY (mxX (mxX (mxX X (bits .xor .u64 Y (IntKind.wrap .u64 (((b).length : Nat) : Int)))) (mxY X (bits .xor .u64 Y (IntKind.wrap .u64 (((b).length : Nat) : Int))))) (mxY (mxX X (bits .xor .u64 Y (IntKind.wrap .u64 (((b).length : Nat) : Int)))) (mxY X (bits .xor .u64 Y (IntKind.wrap .u64 (((b).length : Nat) : Int)))))) (mxY (mxX (mxX X (bits .xor .u64 Y (IntKind.wrap .u64 (((b).length : Nat) : Int)))) (mxY X (bits .xor .u64 Y (IntKind.wrap .u64 (((b).length : Nat) : Int))))) (mxY (mxX X (bits .xor .u64 Y (IntKind.wrap .u64 (((b).length : Nat) : Int)))) (mxY X (bits .xor .u64 Y (IntKind.wrap .u64 (((b).length : Nat) : Int)))))))))).l) rfl q2 Try.isAgg24 Try.sizeOf24 hB1 rfl rfl ⟨?_, hE⟩
    unfold hashB; rw [sm_end b hsm (by assumption)]; rfl

-- forkledger/hash.Tagged
set_option maxRecDepth 4000 in
set_option maxHeartbeats 1000000 in
theorem c37 (t : UInt8) (v : Value) (b : List UInt8) (w : World) (h : Bs w v b) (hb : b.length ≤ 100000000000000) : Calls Try.prog 37 [u8 t, v].toArray w (Ret w (hashB (t :: b)).v) := by
  refine enter Try.func37 Try.ntmps37 rfl rfl ?_
  have hE := Ext.refl w
  refine wp_seq ?_
  refine W_region ?_
  refine L (D_alloc (c := (Nm.zero).l) Try.zeroValue24 rfl (fun aB1 w1 e1 gB1 hB1 => ?_))
  have lB1 := Nat.le_trans hE.size gB1
  replace hE := hE.trans e1
  refine S_nil ?_
  refine T_tn ?_
  refine wp_seq ?_
  refine W_region ?_
  refine L (D_make0 (c := 160) elt5 Try.underlying31 rfl rfl (by (try simp only [List.length_take, List.length_drop, List.length_append, List.length_cons, List.length_nil, Nm.b_len, be2_len]); omega) (fun v3 w2 o4 e2 => ?_))
  replace o4 := o4.lo hE.size
  replace hE := hE.trans e2
  replace hB1 := hB1.ext e2
  refine L (D_v (R_assign rfl) ?_)
  refine S_nil ?_
  refine T_tn ?_
  refine wp_seq ?_
  refine W_region ?_
  refine L (D_v (R_move rfl) ?_)
  refine L (D_v (R_move rfl) ?_)
  refine L (D_buildB (vs := [(0, u8 t)]) (b := [t]) Try.underlying31 Try.sizeOf5 Try.zeroValue5 rfl (fillB1 _) rfl rfl rfl (fun v6 w3 o7 e5 => ?_))
  replace o7 := o7.lo hE.size
  replace hE := hE.trans e5
  replace hB1 := hB1.ext e5
  replace o4 := o4.ext e5
  refine L (D_appendB elt5 Try.underlying31 rfl rfl o4 o7.bs (by (try simp only [List.length_take, List.length_drop, List.length_append, List.length_cons, List.length_nil, Nm.b_len, be2_len]); omega) hE.size (fun v9 w4 o10 g8 => ?_))
  replace hE := hE.grown g8 (fun k hk => own_ge o4 hk)
  replace hB1 := hB1.grown g8 (o4.neB hB1 rfl)
  refine L (D_v (R_move rfl) ?_)
  refine L (D_appendB elt5 Try.underlying31 rfl rfl o10 (h.ext hE) (by (try simp only [List.length_take, List.length_drop, List.length_append, List.length_cons, List.length_nil, Nm.b_len, be2_len]); omega) hE.size (fun v12 w5 o13 g11 => ?_))
  replace hE := hE.grown g11 (fun k hk => own_ge o10 hk)
  replace hB1 := hB1.grown g11 (o10.neB hB1 rfl)
  refine L (D_call (R_callF Try.call87 rfl rfl) (c87 v12 ((([] ++ [t]) ++ b)) _ o13.bs (by (try simp only [List.length_take, List.length_drop, List.length_append, List.length_cons, List.length_nil, Nm.b_len, be2_len]); omega)) (fun w6 e14 => ?_))
  replace hE := hE.trans e14
  replace hB1 := hB1.ext e14
  replace o13 := o13.ext e14
  have xo13 := o13.neB hB1 rfl
  refine L (D_storeA Try.sizeOf24 hB1 rfl rfl rfl rfl rfl (l' := ((hashB (([] ++ [t]) ++ b))).l) rfl (fun w7 k15 hB1 => ?_))
  replace hE := hE.kp k15 lB1
  replace o13 := o13.kp k15 xo13
  refine S_nil ?_
  refine T_tn ?_
  refine wp_ret ?_
  refine retc (c := ((hashB (([] ++ [t]) ++ b))).l) rfl rfl Try.isAgg24 Try.sizeOf24 hB1 rfl rfl ⟨?_, hE⟩
  rfl

-- forkledger/forkledgerref1.Tagged
set_option maxRecDepth 4000 in
set_option maxHeartbeats 1000000 in
theorem c88 (t : UInt8) (v : Value) (b : List UInt8) (w : World) (h : Bs w v b) (hb : b.length ≤ 100000000000000) : Calls Try.prog 88 [u8 t, v].toArray w (Ret w (hashB (t :: b)).v) := by
  refine enter Try.func88 Try.ntmps88 rfl rfl ?_
  have hE := Ext.refl w
  refine wp_seq ?_
  refine W_region ?_
  refine L (D_alloc (c := (Nm.zero).l) Try.zeroValue24 rfl (fun aB1 w1 e1 gB1 hB1 => ?_))
  have lB1 := Nat.le_trans hE.size gB1
  replace hE := hE.trans e1
  refine S_nil ?_
  refine T_tn ?_
  refine wp_seq ?_
  refine W_region ?_
  refine L (D_make0 (c := 160) elt5 Try.underlying31 rfl rfl (by (try simp only [List.length_take, List.length_drop, List.length_append, List.length_cons, List.length_nil, Nm.b_len, be2_len]); omega) (fun v3 w2 o4 e2 => ?_))
  replace o4 := o4.lo hE.size
  replace hE := hE.trans e2
  replace hB1 := hB1.ext e2
  refine L (D_v (R_move rfl) ?_)
  refine L (D_buildB (vs := [(0, u8 t)]) (b := [t]) Try.underlying31 Try.sizeOf5 Try.zeroValue5 rfl (fillB1 _) rfl rfl rfl (fun v6 w3 o7 e5 => ?_))
  replace o7 := o7.lo hE.size
  replace hE := hE.trans e5
  replace hB1 := hB1.ext e5
  replace o4 := o4.ext e5
  refine L (D_appendB elt5 Try.underlying31 rfl rfl o4 o7.bs (by (try simp only [List.length_take, List.length_drop, List.length_append, List.length_cons, List.length_nil, Nm.b_len, be2_len]); omega) hE.size (fun v9 w4 o10 g8 => ?_))
  replace hE := hE.grown g8 (fun k hk => own_ge o4 hk)
  replace hB1 := hB1.grown g8 (o4.neB hB1 rfl)
  refine L (D_v (R_move rfl) ?_)
  refine L (D_appendB elt5 Try.underlying31 rfl rfl o10 (h.ext hE) (by (try simp only [List.length_take, List.length_drop, List.length_append, List.length_cons, List.length_nil, Nm.b_len, be2_len]); omega) hE.size (fun v12 w5 o13 g11 => ?_))
  replace hE := hE.grown g11 (fun k hk => own_ge o10 hk)
  replace hB1 := hB1.grown g11 (o10.neB hB1 rfl)
  refine L (D_call (R_callF Try.call114 rfl rfl) (c114 v12 ((([] ++ [t]) ++ b)) _ o13.bs (by (try simp only [List.length_take, List.length_drop, List.length_append, List.length_cons, List.length_nil, Nm.b_len, be2_len]); omega)) (fun w6 e14 => ?_))
  replace hE := hE.trans e14
  replace hB1 := hB1.ext e14
  replace o13 := o13.ext e14
  have xo13 := o13.neB hB1 rfl
  refine L (D_storeA Try.sizeOf24 hB1 rfl rfl rfl rfl rfl (l' := ((hashB (([] ++ [t]) ++ b))).l) rfl (fun w7 k15 hB1 => ?_))
  replace hE := hE.kp k15 lB1
  replace o13 := o13.kp k15 xo13
  refine S_nil ?_
  refine T_tn ?_
  refine wp_ret ?_
  refine retc (c := ((hashB (([] ++ [t]) ++ b))).l) rfl rfl Try.isAgg24 Try.sizeOf24 hB1 rfl rfl ⟨?_, hE⟩
  rfl

-- forkledger/vote.Name
set_option maxRecDepth 4000 in
set_option maxHeartbeats 1000000 in
theorem c36 (a : Vt) (w : World) : Calls Try.prog 36 [a.v].toArray w (Ret w (nameV a).v) := by
  refine enter Try.func36 Try.ntmps36 rfl rfl ?_
  have hE := Ext.refl w
  have hle := encB_le a
  refine wp_seq ?_
  refine W_region ?_
  refine L (D_box (c := (a).l) (rfl) (fun aB1 w1 e1 gB1 hB1 => ?_))
  have lB1 := Nat.le_trans hE.size gB1
  replace hE := hE.trans e1
  refine L (D_alloc (c := (Nm.zero).l) Try.zeroValue24 rfl (fun aB2 w2 e2 gB2 hB2 => ?_))
  have lB2 := Nat.le_trans hE.size gB2
  have nB1B2 := hB1.ne gB2
  replace hE := hE.trans e2
  replace hB1 := hB1.ext e2
  refine S_nil ?_
  refine T_tn ?_
  refine wp_seq ?_
  refine W_region ?_
  refine L (D_v (R_loadA (c := (a).l) Try.isAgg26 Try.sizeOf26 hB1 rfl rfl rfl) ?_)
  refine L (D_callE (R_callF Try.call35 rfl rfl) (c35 (a) _) (fun v4 w3 e3 p5 => ?_))
  obtain ⟨q7, rfl, o6⟩ := p5
  replace o6 := o6.lo hE.size
  replace hE := hE.trans e3
  replace hB1 := hB1.ext e3
  replace hB2 := hB2.ext e3
  refine L (D_v (R_move rfl) ?_)
  refine L (D_v (R_extract rfl rfl) ?_)
  refine L (D_v (R_extract rfl rfl) ?_)
  refine L (D_v (R_assign rfl) ?_)
  refine L (D_v (R_assign rfl) ?_)
  refine S_nil ?_
  refine T_tn ?_
  refine wp_seq ?_
  refine wp_seq ?_
  refine W_region ?_
  refine L (D_v (R_move rfl) ?_)
  refine L (D_v (R_not rfl) ?_)
  refine S_nil ?_
  refine T_tn ?_
  refine W_if rfl (fun c8 => ?_) (fun c8 => ?_)
  ·
    refine wp_seq ?_
    refine W_region ?_
    refine L (D_v (R_build0 Try.runUnderlying24 Try.sizeOf5 Try.zeroValue24) ?_)
    have xo6 := o6.neB hB2 rfl
    refine L (D_storeA Try.sizeOf24 hB2 rfl rfl rfl rfl rfl (l' := (Nm.zero).l) rfl (fun w4 k9 hB2 => ?_))
    replace hE := hE.kp k9 lB2
    replace hB1 := hB1.kp k9 nB1B2
    replace o6 := o6.kp k9 xo6
    refine S_nil ?_
    refine T_tn ?_
    refine wp_ret ?_
    refine T_tr ?_
    refine retc (c := (Nm.zero).l) rfl rfl Try.isAgg24 Try.sizeOf24 hB2 rfl rfl ⟨?_, hE⟩
    simp_all [nameV]; try rfl
  ·
    refine wp_skip ?_
    refine T_tn ?_
    refine wp_seq ?_
    refine W_region ?_
    refine L (D_v (R_move rfl) ?_)
    refine L (D_call (R_callF Try.call37 rfl rfl) (c37 64 q7 ((encB a)) _ o6.bs (by (try simp only [List.length_take, List.length_drop, List.length_append, List.length_cons, List.length_nil, Nm.b_len, be2_len, encB_len]); omega)) (fun w5 e10 => ?_))
    replace hE := hE.trans e10
    replace hB1 := hB1.ext e10
    replace hB2 := hB2.ext e10
    replace o6 := o6.ext e10
    have xo6 := o6.neB hB2 rfl
    refine L (D_storeA Try.sizeOf24 hB2 rfl rfl rfl rfl rfl (l' := ((hashB (64 :: (encB a)))).l) rfl (fun w6 k11 hB2 => ?_))
    replace hE := hE.kp k11 lB2
    replace hB1 := hB1.kp k11 nB1B2
    replace o6 := o6.kp k11 xo6
    refine S_nil ?_
    refine T_tn ?_
    refine wp_ret ?_
    refine retc (c := ((hashB (64 :: (encB a)))).l) rfl rfl Try.isAgg24 Try.sizeOf24 hB2 rfl rfl ⟨?_, hE⟩
    simp_all [nameV]; try rfl

-- forkledger/forkledgerref6.VoteName
set_option maxRecDepth 4000 in
set_option maxHeartbeats 1000000 in
theorem c39 (a : Vt) (w : World) : Calls Try.prog 39 [a.v].toArray w (Ret w (nameV a).v) := by
  refine enter Try.func39 Try.ntmps39 rfl rfl ?_
  have hE := Ext.refl w
  have hle := encB_le a
  refine wp_seq ?_
  refine W_region ?_
  refine L (D_box (c := (a).l) (rfl) (fun aB1 w1 e1 gB1 hB1 => ?_))
  have lB1 := Nat.le_trans hE.size gB1
  replace hE := hE.trans e1
  refine L (D_alloc (c := (Nm.zero).l) Try.zeroValue24 rfl (fun aB2 w2 e2 gB2 hB2 => ?_))
  have lB2 := Nat.le_trans hE.size gB2
  have nB1B2 := hB1.ne gB2
  replace hE := hE.trans e2
  replace hB1 := hB1.ext e2
  refine S_nil ?_
  refine T_tn ?_
  refine wp_seq ?_
  refine W_region ?_
  refine L (D_v (R_loadA (c := (a).l) Try.isAgg26 Try.sizeOf26 hB1 rfl rfl rfl) ?_)
  refine L (D_callE (R_callF Try.call38 rfl rfl) (c38 (a) _) (fun v4 w3 e3 p5 => ?_))
  obtain ⟨q7, rfl, o6⟩ := p5
  replace o6 := o6.lo hE.size
  replace hE := hE.trans e3
  replace hB1 := hB1.ext e3
  replace hB2 := hB2.ext e3
  refine L (D_v (R_move rfl) ?_)
  refine L (D_v (R_extract rfl rfl) ?_)
  refine L (D_v (R_extract rfl rfl) ?_)
  refine L (D_v (R_assign rfl) ?_)
  refine L (D_v (R_assign rfl) ?_)
  refine S_nil ?_
  refine T_tn ?_
  refine wp_seq ?_
  refine wp_seq ?_
  refine W_region ?_
  refine L (D_v (R_move rfl) ?_)
  refine L (D_v (R_not rfl) ?_)
  refine S_nil ?_
  refine T_tn ?_
  refine W_if rfl (fun c8 => ?_) (fun c8 => ?_)
  ·
    refine wp_seq ?_
    refine W_region ?_
    refine L (D_v (R_build0 Try.runUnderlying24 Try.sizeOf5 Try.zeroValue24) ?_)
    have xo6 := o6.neB hB2 rfl
    refine L (D_storeA Try.sizeOf24 hB2 rfl rfl rfl rfl rfl (l' := (Nm.zero).l) rfl (fun w4 k9 hB2 => ?_))
    replace hE := hE.kp k9 lB2
    replace hB1 := hB1.kp k9 nB1B2
    replace o6 := o6.kp k9 xo6
    refine S_nil ?_
    refine T_tn ?_
    refine wp_ret ?_
    refine T_tr ?_
    refine retc (c := (Nm.zero).l) rfl rfl Try.isAgg24 Try.sizeOf24 hB2 rfl rfl ⟨?_, hE⟩
    simp_all [nameV]; try rfl
  ·
    refine wp_skip ?_
    refine T_tn ?_
    refine wp_seq ?_
    refine W_region ?_
    refine L (D_v (R_move rfl) ?_)
    refine L (D_call (R_callF Try.call88 rfl rfl) (c88 64 q7 ((encB a)) _ o6.bs (by (try simp only [List.length_take, List.length_drop, List.length_append, List.length_cons, List.length_nil, Nm.b_len, be2_len, encB_len]); omega)) (fun w5 e10 => ?_))
    replace hE := hE.trans e10
    replace hB1 := hB1.ext e10
    replace hB2 := hB2.ext e10
    replace o6 := o6.ext e10
    have xo6 := o6.neB hB2 rfl
    refine L (D_storeA Try.sizeOf24 hB2 rfl rfl rfl rfl rfl (l' := ((hashB (64 :: (encB a)))).l) rfl (fun w6 k11 hB2 => ?_))
    replace hE := hE.kp k11 lB2
    replace hB1 := hB1.kp k11 nB1B2
    replace o6 := o6.kp k11 xo6
    refine S_nil ?_
    refine T_tn ?_
    refine wp_ret ?_
    refine retc (c := ((hashB (64 :: (encB a)))).l) rfl rfl Try.isAgg24 Try.sizeOf24 hB2 rfl rfl ⟨?_, hE⟩
    simp_all [nameV]; try rfl
end Go.Proofs.Yteeopgpgbdhmhaa
