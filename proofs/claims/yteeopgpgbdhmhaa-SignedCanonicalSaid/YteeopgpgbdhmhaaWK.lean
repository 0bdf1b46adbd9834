/- Walks of the functions on bytes: merkle, manytime (begun). No condition. Printed by wip/mkI.py. -/
import Derived.Test.YteeopgpgbdhmhaaWJ
namespace Go.Proofs.Yteeopgpgbdhmhaa
open Go.RowKit
set_option linter.unusedVariables false
set_option linter.unusedSimpArgs false
attribute [local irreducible] wpList wpO H wpQuiet wpStill Code.wp Exit.then Exit.inBlock bodyPost Code.rounds Calls valid sameKey conflict lessV hless num between
-- forkledger/merkle.single
set_option maxRecDepth 4000 in
set_option maxHeartbeats 1000000 in
theorem c160 (n : Nm) (w : World) : Calls Try.prog 160 [n.v].toArray w (Ret w (hashB (17 :: n.b)).v) := by
  refine enter Try.func160 Try.ntmps160 rfl rfl ?_
  have hE := Ext.refl w
  refine wp_seq ?_
  refine W_region ?_
  refine L (D_box (c := (n).l) (rfl) (fun aB1 w1 e1 gB1 hB1 => ?_))
  have lB1 := Nat.le_trans hE.size gB1
  replace hE := hE.trans e1
  refine L (D_alloc (c := (Nm.zero).l) Try.zeroValue24 rfl (fun aB2 w2 e2 gB2 hB2 => ?_))
  have lB2 := Nat.le_trans hE.size gB2
  have nB1B2 := hB1.ne gB2
  replace hE := hE.trans e2
  replace hB1 := hB1.ext e2
  refine S_nil ?_
  refine T_tn ?_
  refine wp_seq ?_
  refine W_region ?_
  refine L (D_v (R_sliceArr (len := 7) Try.underlying24 Try.sizeOf5 rfl) ?_)
  refine L (D_call (R_callF Try.call37 rfl rfl) (c37 17 (.slice (some ⟨aB1, 0, none⟩) 8 8) ((n).b) _ (hB1.bs 0 (n).b rfl rfl rfl) (by (try simp only [List.length_take, List.length_drop, List.length_append, List.length_cons, List.length_nil, Nm.b_len, be2_len]); omega)) (fun w3 e3 => ?_))
  replace hE := hE.trans e3
  replace hB1 := hB1.ext e3
  replace hB2 := hB2.ext e3
  refine L (D_storeA Try.sizeOf24 hB2 rfl rfl rfl rfl rfl (l' := ((hashB (17 :: (n).b))).l) rfl (fun w4 k4 hB2 => ?_))
  replace hE := hE.kp k4 lB2
  replace hB1 := hB1.kp k4 nB1B2
  refine S_nil ?_
  refine T_tn ?_
  refine wp_ret ?_
  refine retc (c := ((hashB (17 :: (n).b))).l) rfl rfl Try.isAgg24 Try.sizeOf24 hB2 rfl rfl ⟨?_, hE⟩
  rfl

-- forkledger/manytime.Capacity
set_option maxRecDepth 4000 in
set_option maxHeartbeats 1000000 in
theorem c98_2  (w : World) : Calls Try.prog 98 [i64 2].toArray w (Ret w (i64 1024)) := by
  refine enter Try.func98 Try.ntmps98 rfl rfl ?_
  have hE := Ext.refl w
  refine wp_seq ?_
  refine W_region ?_
  refine L (D_v (R_assign rfl) ?_)
  refine S_nil ?_
  refine T_tn ?_
  refine wp_seq ?_
  refine W_region ?_
  refine L (D_v (R_assign rfl) ?_)
  refine S_nil ?_
  refine T_tn ?_
  refine wp_seq ?_
  refine wp_seq ?_
  refine W_region ?_
  refine L (D_v (R_move rfl) ?_)
  refine S_nil ?_
  refine T_tn ?_
  refine wp_block ?_
  refine wp_seq ?_
  refine wp_block ?_
  refine wp_seq ?_
  refine wp_block ?_
  refine wp_seq ?_
  refine wp_block ?_
  refine wp_seq ?_
  refine wp_seq ?_
  refine wp_seq ?_
  refine W_region ?_
  refine L (D_v (R_cast (v' := .bool true) (R_eqlI rfl rfl) rfl) ?_)
  refine L (D_v (R_assign rfl) ?_)
  refine S_nil ?_
  refine T_tn ?_
  refine W_ift rfl ?_
  refine wp_exit ?_
  refine T_te ?_
  refine T_te ?_
  refine T_be ?_
  refine T_tn ?_
  refine W_region ?_
  refine L (D_v (R_move rfl) ?_)
  refine L (D_v (R_cast (v' := .int .i64 (32)) (R_mulI rfl rfl) rfl) ?_)
  refine L (D_v (R_assign rfl) ?_)
  refine S_nil ?_
  refine T_bn ?_
  refine T_tn ?_
  refine wp_seq ?_
  refine W_region ?_
  refine L (D_v (R_move rfl) ?_)
  refine L (D_v (R_cast (v' := .int .i64 (1024)) (R_mulI rfl rfl) rfl) ?_)
  refine L (D_v (R_assign rfl) ?_)
  refine S_nil ?_
  refine T_tn ?_
  refine wp_exit ?_
  refine T_bx rfl ?_
  refine T_te ?_
  refine T_be ?_
  refine T_tn ?_
  refine wp_seq ?_
  refine W_region ?_
  refine L (D_v (R_move rfl) ?_)
  refine L (D_v (R_assign rfl) ?_)
  refine S_nil ?_
  refine T_tn ?_
  refine wp_ret ?_
  refine ret1 (v := .int _ _) rfl rfl ⟨?_, hE⟩
  rfl

-- forkledger/forkledgerref1.Pair
set_option maxRecDepth 4000 in
set_option maxHeartbeats 1000000 in
theorem c173 (t : UInt8) (a b : Nm) (w : World) : Calls Try.prog 173 [u8 t, a.v, b.v].toArray w (Ret w (hashB (t :: (a.b ++ b.b))).v) := by
  refine enter Try.func173 Try.ntmps173 rfl rfl ?_
  have hE := Ext.refl w
  refine wp_seq ?_
  refine W_region ?_
  refine L (D_box (c := (a).l) (rfl) (fun aB1 w1 e1 gB1 hB1 => ?_))
  have lB1 := Nat.le_trans hE.size gB1
  replace hE := hE.trans e1
  refine L (D_box (c := (b).l) (rfl) (fun aB2 w2 e2 gB2 hB2 => ?_))
  have lB2 := Nat.le_trans hE.size gB2
  have nB1B2 := hB1.ne gB2
  replace hE := hE.trans e2
  replace hB1 := hB1.ext e2
  refine L (D_alloc (c := (Nm.zero).l) Try.zeroValue24 rfl (fun aB3 w3 e3 gB3 hB3 => ?_))
  have lB3 := Nat.le_trans hE.size gB3
  have nB1B3 := hB1.ne gB3
  have nB2B3 := hB2.ne gB3
  replace hE := hE.trans e3
  replace hB1 := hB1.ext e3
  replace hB2 := hB2.ext e3
  refine S_nil ?_
  refine T_tn ?_
  refine wp_seq ?_
  refine W_held (fun W => Ext w W ∧ Blk W aB1 (a).l 24 ∧ Blk W aB2 (b).l 24 ∧ True) mixed (fun w4 e4 => ?_)
  replace hE := hE.trans e4
  replace hB1 := hB1.ext e4
  replace hB2 := hB2.ext e4
  replace hB3 := hB3.ext e4
  refine H_take (i := 0) rfl (by kernel_rfl) (by kernel_rfl) (by kernel_rfl) rfl (pq_then pq_body) ⟨hE, hB1, hB2, trivial⟩ rfl (fun w hw => R_move rfl) ?_
  refine H_take (i := 2) rfl (by kernel_rfl) (by kernel_rfl) (by kernel_rfl) rfl (pq_then pq_body) ⟨hE, hB1, hB2, trivial⟩ rfl (fun w hw => R_sliceArr (len := 7) Try.underlying24 Try.sizeOf5 rfl) ?_
  refine H_take (i := 4) rfl (by kernel_rfl) (by kernel_rfl) (by kernel_rfl) rfl (pq_then pq_body) ⟨hE, hB1, hB2, trivial⟩ rfl (fun w hw => R_sliceArr (len := 7) Try.underlying24 Try.sizeOf5 rfl) ?_
  refine H_op (i := 1) (by kernel_rfl) rfl rfl (D_build0 Try.underlying31 Try.sizeOf5 (fun v6 w5 o7 e5 => ?_))
  replace o7 := o7.lo hE.size
  replace hE := hE.trans e5
  replace hB1 := hB1.ext e5
  replace hB2 := hB2.ext e5
  replace hB3 := hB3.ext e5
  refine ⟨⟨hE, hB1, hB2, trivial⟩, ?_⟩
  refine H_op (i := 3) (by kernel_rfl) rfl rfl (D_appendB elt5 Try.underlying31 rfl rfl o7 (hB1.bs 0 (a).b rfl rfl rfl) (by (try simp only [List.length_take, List.length_drop, List.length_append, List.length_cons, List.length_nil, Nm.b_len, be2_len]); omega) hE.size (fun v9 w6 o10 g8 => ?_))
  replace hE := hE.grown g8 (fun k hk => own_ge o7 hk)
  replace hB1 := hB1.grown g8 (o7.neB hB1 rfl)
  replace hB2 := hB2.grown g8 (o7.neB hB2 rfl)
  replace hB3 := hB3.grown g8 (o7.neB hB3 rfl)
  refine ⟨⟨hE, hB1, hB2, trivial⟩, ?_⟩
  refine H_op (i := 5) (by kernel_rfl) rfl rfl (D_appendB elt5 Try.underlying31 rfl rfl o10 (hB2.bs 0 (b).b rfl rfl rfl) (by (try simp only [List.length_take, List.length_drop, List.length_append, List.length_cons, List.length_nil, Nm.b_len, be2_len]); omega) hE.size (fun v12 w7 o13 g11 => ?_))
  replace hE := hE.grown g11 (fun k hk => own_ge o10 hk)
  replace hB1 := hB1.grown g11 (o10.neB hB1 rfl)
  replace hB2 := hB2.grown g11 (o10.neB hB2 rfl)
  replace hB3 := hB3.grown g11 (o10.neB hB3 rfl)
  refine ⟨⟨hE, hB1, hB2, trivial⟩, ?_⟩
  refine H_op (i := 6) (by kernel_rfl) rfl rfl (D_call (R_callF Try.call88 rfl rfl) (c88 t v12 ((([] ++ (a).b) ++ (b).b)) _ o13.bs (by (try simp only [List.length_take, List.length_drop, List.length_append, List.length_cons, List.length_nil, Nm.b_len, be2_len]); omega)) (fun w8 e14 => ?_))
  replace hE := hE.trans e14
  replace hB1 := hB1.ext e14
  replace hB2 := hB2.ext e14
  replace hB3 := hB3.ext e14
  replace o13 := o13.ext e14
  refine ⟨⟨hE, hB1, hB2, trivial⟩, ?_⟩
  have xo13 := o13.neB hB3 rfl
  refine H_op (i := 7) (by kernel_rfl) rfl rfl (D_storeA Try.sizeOf24 hB3 rfl rfl rfl rfl rfl (l' := ((hashB (t :: (([] ++ (a).b) ++ (b).b)))).l) rfl (fun w9 k15 hB3 => ?_))
  replace hE := hE.kp k15 lB3
  replace hB1 := hB1.kp k15 nB1B3
  replace hB2 := hB2.kp k15 nB2B3
  replace o13 := o13.kp k15 xo13
  refine ⟨⟨hE, hB1, hB2, trivial⟩, ?_⟩
  refine H_done (by kernel_rfl) ?_
  refine T_tn ?_
  refine wp_ret ?_
  refine retc (c := ((hashB (t :: (([] ++ (a).b) ++ (b).b)))).l) rfl rfl Try.isAgg24 Try.sizeOf24 hB3 rfl rfl ⟨?_, hE⟩
  rfl
end Go.Proofs.Yteeopgpgbdhmhaa
