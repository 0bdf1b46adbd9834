/- Walks of the functions on bytes: keys; a signing that is refused. No condition. Printed by wip/mkX.py. -/
import Derived.Test.YteeopgpgbdhmhaaWW
import Derived.Test.YteeopgpgbdhmhaaGk
namespace Go.Proofs.Yteeopgpgbdhmhaa
open Go.RowKit
set_option linter.unusedVariables false
set_option linter.unusedSimpArgs false
attribute [local irreducible] wpList wpO H wpQuiet wpStill Code.wp Exit.then Exit.inBlock bodyPost Code.rounds Calls valid sameKey conflict lessV hless num between
-- forkledger/manytime.NewKey
set_option maxRecDepth 4000 in
set_option maxHeartbeats 1000000 in
theorem c60 (n : Nm) (w : World) : Calls Try.prog 60 [n.v, i64 2].toArray w (RetE w fun r w' => ∃ g m, r = .pointer (some ⟨g, 0, none⟩) ∧ w.heap.size ≤ g ∧ Blk w' g ((n).l ++ [i64 (2), .map (some m)]) 108) := by
  refine enter Try.func60 Try.ntmps60 rfl rfl ?_
  have hE := Ext.refl w
  refine wp_seq ?_
  refine W_region ?_
  refine L (D_box (c := (n).l) (rfl) (fun aB1_0 w1_0 e1_0 gB1_0 hB1_0 => ?_))
  have lB1_0 := Nat.le_trans hE.size gB1_0
  replace hE := hE.trans e1_0
  refine L (D_v (R_assign rfl) ?_)
  refine S_nil ?_
  refine T_tn ?_
  refine wp_seq ?_
  refine wp_seq ?_
  refine W_region ?_
  refine L (D_v (R_move rfl) ?_)
  refine L (D_call (R_callF Try.call98 rfl rfl) (c98_2 _) (fun w2_1 e2_1 => ?_))
  replace hE := hE.trans e2_1
  replace hB1_0 := hB1_0.ext e2_1
  refine L (D_v (R_cast (v' := .bool false) (R_eqlI rfl rfl) rfl) ?_)
  refine S_nil ?_
  refine T_tn ?_
  refine W_iff rfl ?_
  refine wp_skip ?_
  refine T_tn ?_
  refine wp_seq ?_
  refine W_region ?_
  refine L (D_v (R_loadA (c := (n).l) Try.isAgg24 Try.sizeOf24 hB1_0 rfl rfl rfl) ?_)
  refine L (D_v (R_move rfl) ?_)
  refine L (D_makeMap (fun m3_2 w3_2 e3_2 gm3_2 hm3_2 => ?_))
  replace hE := hE.trans e3_2
  replace hB1_0 := hB1_0.ext e3_2
  refine L (D_v (R_buildS (vs := [(0, .agg (n).l.toArray), (1, i64 (2)), (2, .map (some m3_2))]) (c := (n).l ++ [i64 (2), .map (some m3_2)]) Try.runUnderlying108 places108 Try.zeroValue108 rfl (fill108 _ _ _)) ?_)
  refine L (D_box (c := (n).l ++ [i64 (2), .map (some m3_2)]) (rfl) (fun aB3_4 w3_4 e3_4 gB3_4 hB3_4 => ?_))
  have lB3_4 := Nat.le_trans hE.size gB3_4
  have nB1_0B3_4 := hB1_0.ne gB3_4
  replace hE := hE.trans e3_4
  replace hB1_0 := hB1_0.ext e3_4
  refine L (D_v (R_assign rfl) ?_)
  refine S_nil ?_
  refine T_tn ?_
  refine wp_ret ?_
  refine ret1 (v := _) rfl rfl ⟨_, rfl, hE, ?_⟩
  exact ⟨aB3_4, _, rfl, lB3_4, hB3_4⟩

-- (*forkledger/manytime.Key).ready
set_option maxRecDepth 4000 in
set_option maxHeartbeats 1000000 in
theorem c128 (n : Nm) (m aK : Nat) (w : World) (hTK : Blk w aK ((n).l ++ [i64 (2), .map (some m)]) 108) : Calls Try.prog 128 [.pointer (some ⟨aK, 0, none⟩)].toArray w (Ret w (.bool true)) := by
  refine enter Try.func128 Try.ntmps128 rfl rfl ?_
  have hE := Ext.refl w
  refine wp_seq ?_
  refine W_region ?_
  refine L (D_v (R_assign rfl) ?_)
  refine S_nil ?_
  refine T_tn ?_
  refine wp_seq ?_
  refine W_region ?_
  refine L (D_v (R_move rfl) ?_)
  refine L (D_v (R_ptrNN rfl rfl) ?_)
  refine L (D_v (R_move rfl) ?_)
  refine L (D_on rfl rfl (D_v (R_move rfl) ?_))
  refine L (D_on rfl rfl (D_v (R_nilCheck rfl) ?_))
  refine L (D_on rfl rfl (D_v (R_fieldAddr Try.runUnderlying108 rfl Try.sizeOf106 rfl) ?_))
  refine L (D_on rfl rfl (D_v (R_load Try.isAgg106 hTK rfl rfl) ?_))
  refine L (D_on rfl rfl (D_v (R_mapNN rfl rfl) ?_))
  refine L (D_v (R_cast (v' := .bool true) (R_pick rfl rfl rfl) rfl) ?_)
  refine L (D_v (R_assign rfl) ?_)
  refine S_nil ?_
  refine T_tn ?_
  refine wp_ret ?_
  refine ret1 (v := .bool _) rfl rfl ⟨congrArg (fun b => Ending.returned (Value.bool b)) ?_, hE⟩
  rfl

-- (*forkledger/manytime.Key).Sign
set_option maxRecDepth 4000 in
set_option maxHeartbeats 1000000 in
theorem c97_n (n : Nm) (m aK : Nat) (x : Nm) (w : World) (hTK : Blk w aK ((n).l ++ [i64 (2), .map (some m)]) 108) : Calls Try.prog 97 [.pointer (some ⟨aK, 0, none⟩), i64 1024, x.v].toArray w (Ret w (.tuple #[.slice none 0 0, .bool false])) := by
  refine enter Try.func97 Try.ntmps97 rfl rfl ?_
  have hE := Ext.refl w
  refine wp_seq ?_
  refine W_region ?_
  refine L (D_box (c := (x).l) (rfl) (fun aB1_0 w1_0 e1_0 gB1_0 hB1_0 => ?_))
  have lB1_0 := Nat.le_trans hE.size gB1_0
  have nKB1_0 := hTK.ne gB1_0
  replace hE := hE.trans e1_0
  replace hTK := hTK.ext e1_0
  refine L (D_v (R_assign rfl) ?_)
  refine L (D_v (R_assign rfl) ?_)
  refine S_nil ?_
  refine T_tn ?_
  refine wp_seq ?_
  refine wp_seq ?_
  refine W_region ?_
  refine L (D_v (R_move rfl) ?_)
  refine L (D_call (R_callF Try.call128 rfl rfl) (c128 (n) m aK _ hTK) (fun w2_1 e2_1 => ?_))
  replace hE := hE.trans e2_1
  replace hTK := hTK.ext e2_1
  replace hB1_0 := hB1_0.ext e2_1
  refine L (D_v (R_not rfl) ?_)
  refine L (D_v (R_move rfl) ?_)
  refine L (D_on rfl rfl (D_v (R_move rfl) ?_))
  refine L (D_on rfl rfl (D_v (R_cast (v' := .bool false) (R_lssI rfl rfl) rfl) ?_))
  refine L (D_v (R_cast (v' := .bool false) (R_pick rfl rfl rfl) rfl) ?_)
  refine L (D_v (R_move rfl) ?_)
  refine L (D_on rfl rfl (D_v (R_move rfl) ?_))
  refine L (D_on rfl rfl (D_v (R_move rfl) ?_))
  refine L (D_on rfl rfl (D_v (R_nilCheck rfl) ?_))
  refine L (D_on rfl rfl (D_v (R_fieldAddr Try.runUnderlying108 rfl Try.sizeOf3 rfl) ?_))
  refine L (D_on rfl rfl (D_v (R_load Try.isAgg3 hTK rfl rfl) ?_))
  refine L (D_on rfl rfl (D_call (R_callF Try.call98 rfl rfl) (c98_2 _) (fun w2_13 e2_13 => ?_)))
  replace hE := hE.trans e2_13
  replace hTK := hTK.ext e2_13
  replace hB1_0 := hB1_0.ext e2_13
  refine L (D_on rfl rfl (D_v (R_cast (v' := .bool true) (R_geqI rfl rfl) rfl) ?_))
  refine L (D_v (R_cast (v' := .bool true) (R_pick rfl rfl rfl) rfl) ?_)
  refine S_nil ?_
  refine T_tn ?_
  refine W_ift rfl ?_
  refine wp_seq ?_
  refine W_region ?_
  refine L (D_v (R_assign rfl) ?_)
  refine L (D_v (R_assign rfl) ?_)
  refine S_nil ?_
  refine T_tn ?_
  refine wp_ret ?_
  refine T_tr ?_
  refine ret2 (v := _) (v2 := .bool _) rfl rfl rfl ⟨?_, hE⟩
  rfl

-- forkledger/signed.SignWith
set_option maxRecDepth 4000 in
set_option maxHeartbeats 1000000 in
theorem c59_n (n : Nm) (m aK : Nat) (x : Vt) (w : World) (hTK : Blk w aK ((n).l ++ [i64 (2), .map (some m)]) 108) : Calls Try.prog 59 [.pointer (some ⟨aK, 0, none⟩), i64 1024, x.v].toArray w (Ret w (.tuple #[Sg.zero.v, .bool false])) := by
  refine enter Try.func59 Try.ntmps59 rfl rfl ?_
  have hE := Ext.refl w
  refine wp_seq ?_
  refine W_region ?_
  refine L (D_box (c := (x).l) (rfl) (fun aB1_0 w1_0 e1_0 gB1_0 hB1_0 => ?_))
  have lB1_0 := Nat.le_trans hE.size gB1_0
  have nKB1_0 := hTK.ne gB1_0
  replace hE := hE.trans e1_0
  replace hTK := hTK.ext e1_0
  refine L (D_alloc (c := (Sg.zero).l) Try.zeroValue53 rfl (fun aB1_1 w1_1 e1_1 gB1_1 hB1_1 => ?_))
  have lB1_1 := Nat.le_trans hE.size gB1_1
  have nKB1_1 := hTK.ne gB1_1
  have nB1_0B1_1 := hB1_0.ne gB1_1
  replace hE := hE.trans e1_1
  replace hTK := hTK.ext e1_1
  replace hB1_0 := hB1_0.ext e1_1
  refine L (D_v (R_assign rfl) ?_)
  refine S_nil ?_
  refine T_tn ?_
  refine wp_seq ?_
  refine wp_seq ?_
  refine W_region ?_
  refine L (D_v (R_loadA (c := (x).l) Try.isAgg26 Try.sizeOf26 hB1_0 rfl rfl rfl) ?_)
  refine L (D_call (R_callF Try.call26 rfl rfl) (c26 (x) _ ) (fun w2_1 e2_1 => ?_))
  replace hE := hE.trans e2_1
  replace hTK := hTK.ext e2_1
  replace hB1_0 := hB1_0.ext e2_1
  replace hB1_1 := hB1_1.ext e2_1
  refine L (D_v (R_not rfl) ?_)
  refine S_nil ?_
  refine T_tn ?_
  refine W_if rfl (fun c1 => ?_) (fun c1 => ?_)
  ·
    refine wp_seq ?_
    refine W_region ?_
    refine L (D_v (R_buildS (c := Sg.zero.l) Try.runUnderlying53 places53 Try.zeroValue53 rfl rfl) ?_)
    have h0 := hB1_1
    refine L (D_storeA Try.sizeOf53 hB1_1 rfl rfl rfl rfl rfl (l' := (Sg.zero).l) rfl (fun w3_1 k3_1 hB1_1 => ?_))
    replace hE := hE.kp k3_1 lB1_1
    refine L (D_v (R_assign rfl) ?_)
    refine S_nil ?_
    refine T_tn ?_
    refine wp_ret ?_
    refine T_tr ?_
    refine retct (c := (Sg.zero).l) (v2 := .bool false) rfl rfl rfl Try.isAgg53 Try.sizeOf53 hB1_1 rfl rfl ⟨?_, hE⟩
    rfl
  ·
    refine wp_skip ?_
    refine T_tn ?_
    refine wp_seq ?_
    refine W_region ?_
    refine L (D_v (R_move rfl) ?_)
    refine L (D_v (R_move rfl) ?_)
    refine L (D_v (R_loadA (c := (x).l) Try.isAgg26 Try.sizeOf26 hB1_0 rfl rfl rfl) ?_)
    refine L (D_call (R_callF Try.call36 rfl rfl) (c36 (x) _) (fun w3_3 e3_3 => ?_))
    replace hE := hE.trans e3_3
    replace hTK := hTK.ext e3_3
    replace hB1_0 := hB1_0.ext e3_3
    replace hB1_1 := hB1_1.ext e3_3
    refine L (D_call (R_callF Try.call97 rfl rfl) (c97_n (n) m aK ((nameV x)) _ hTK) (fun w3_4 e3_4 => ?_))
    replace hE := hE.trans e3_4
    replace hTK := hTK.ext e3_4
    replace hB1_0 := hB1_0.ext e3_4
    replace hB1_1 := hB1_1.ext e3_4
    refine L (D_v (R_move rfl) ?_)
    refine L (D_v (R_extract rfl rfl) ?_)
    refine L (D_v (R_extract rfl rfl) ?_)
    refine L (D_v (R_assign rfl) ?_)
    refine L (D_v (R_assign rfl) ?_)
    refine S_nil ?_
    refine T_tn ?_
    refine wp_seq ?_
    refine wp_seq ?_
    refine W_region ?_
    refine L (D_v (R_move rfl) ?_)
    refine L (D_v (R_not rfl) ?_)
    refine S_nil ?_
    refine T_tn ?_
    refine W_ift rfl ?_
    refine wp_seq ?_
    refine W_region ?_
    refine L (D_v (R_buildS (c := Sg.zero.l) Try.runUnderlying53 places53 Try.zeroValue53 rfl rfl) ?_)
    have h0 := hB1_1
    refine L (D_storeA Try.sizeOf53 hB1_1 rfl rfl rfl rfl rfl (l' := (Sg.zero).l) rfl (fun w5_1 k5_1 hB1_1 => ?_))
    replace hE := hE.kp k5_1 lB1_1
    refine L (D_v (R_assign rfl) ?_)
    refine S_nil ?_
    refine T_tn ?_
    refine wp_ret ?_
    refine T_tr ?_
    refine retct (c := (Sg.zero).l) (v2 := .bool false) rfl rfl rfl Try.isAgg53 Try.sizeOf53 hB1_1 rfl rfl ⟨?_, hE⟩
    rfl

-- forkledger/signed.Sign
set_option maxRecDepth 4000 in
set_option maxHeartbeats 1000000 in
theorem c53_n (n : Nm) (x : Vt) (w : World) : Calls Try.prog 53 [n.v, i64 1024, x.v].toArray w (Ret w (.tuple #[Sg.zero.v, .bool false])) := by
  refine enter Try.func53 Try.ntmps53 rfl rfl ?_
  have hE := Ext.refl w
  refine wp_seq ?_
  refine W_region ?_
  refine L (D_box (c := (n).l) (rfl) (fun aB1_0 w1_0 e1_0 gB1_0 hB1_0 => ?_))
  have lB1_0 := Nat.le_trans hE.size gB1_0
  replace hE := hE.trans e1_0
  refine L (D_box (c := (x).l) (rfl) (fun aB1_1 w1_1 e1_1 gB1_1 hB1_1 => ?_))
  have lB1_1 := Nat.le_trans hE.size gB1_1
  have nB1_0B1_1 := hB1_0.ne gB1_1
  replace hE := hE.trans e1_1
  replace hB1_0 := hB1_0.ext e1_1
  refine L (D_alloc (c := (Sg.zero).l) Try.zeroValue53 rfl (fun aB1_2 w1_2 e1_2 gB1_2 hB1_2 => ?_))
  have lB1_2 := Nat.le_trans hE.size gB1_2
  have nB1_0B1_2 := hB1_0.ne gB1_2
  have nB1_1B1_2 := hB1_1.ne gB1_2
  replace hE := hE.trans e1_2
  replace hB1_0 := hB1_0.ext e1_2
  replace hB1_1 := hB1_1.ext e1_2
  refine L (D_v (R_assign rfl) ?_)
  refine S_nil ?_
  refine T_tn ?_
  refine wp_seq ?_
  refine W_held (fun W => Ext w W ∧ Blk W aB1_0 (n).l 24 ∧ Blk W aB1_1 (x).l 26 ∧ True) mixed (fun w2_99 e2_99 => ?_)
  replace hE := hE.trans e2_99
  replace hB1_0 := hB1_0.ext e2_99
  replace hB1_1 := hB1_1.ext e2_99
  replace hB1_2 := hB1_2.ext e2_99
  refine H_take (i := 0) rfl (by kernel_rfl) (by kernel_rfl) (by kernel_rfl) rfl (pq_then pq_body) ⟨hE, hB1_0, hB1_1, trivial⟩ rfl (fun w hw => R_loadA (c := (n).l) Try.isAgg24 Try.sizeOf24 hw.2.1 rfl rfl rfl) ?_
  refine H_take (i := 2) rfl (by kernel_rfl) (by kernel_rfl) (by kernel_rfl) rfl (pq_then pq_body) ⟨hE, hB1_0, hB1_1, trivial⟩ rfl (fun w hw => R_move rfl) ?_
  refine H_take (i := 3) rfl (by kernel_rfl) (by kernel_rfl) (by kernel_rfl) rfl (pq_then pq_body) ⟨hE, hB1_0, hB1_1, trivial⟩ rfl (fun w hw => R_loadA (c := (x).l) Try.isAgg26 Try.sizeOf26 hw.2.2.1 rfl rfl rfl) ?_
  refine H_op (i := 1) (by kernel_rfl) rfl rfl (D_callE (R_callF Try.call60 rfl rfl) (c60 (n) _) (fun v2_1 w2_1 e2_1 p2_1 => ?_))
  obtain ⟨aK2_1, m2_1, rfl, gK2_1, hK2_1⟩ := p2_1
  have lK2_1 := Nat.le_trans hE.size gK2_1
  have nB1_0K2_1 := hB1_0.ne gK2_1
  have nB1_1K2_1 := hB1_1.ne gK2_1
  have nB1_2K2_1 := hB1_2.ne gK2_1
  replace hE := hE.trans e2_1
  replace hB1_0 := hB1_0.ext e2_1
  replace hB1_1 := hB1_1.ext e2_1
  replace hB1_2 := hB1_2.ext e2_1
  refine ⟨⟨hE, hB1_0, hB1_1, trivial⟩, ?_⟩
  refine H_op (i := 4) (by kernel_rfl) rfl rfl (D_call (R_callF Try.call59 rfl rfl) (c59_n (n) m2_1 aK2_1 (x) _ hK2_1) (fun w2_4 e2_4 => ?_))
  replace hE := hE.trans e2_4
  replace hB1_0 := hB1_0.ext e2_4
  replace hB1_1 := hB1_1.ext e2_4
  replace hB1_2 := hB1_2.ext e2_4
  replace hK2_1 := hK2_1.ext e2_4
  refine ⟨⟨hE, hB1_0, hB1_1, trivial⟩, ?_⟩
  refine H_take (i := 5) rfl (by kernel_rfl) (by kernel_rfl) (by kernel_rfl) rfl (pq_then pq_body) ⟨hE, hB1_0, hB1_1, trivial⟩ rfl (fun w hw => R_extract rfl rfl) ?_
  refine H_take (i := 6) rfl (by kernel_rfl) (by kernel_rfl) (by kernel_rfl) rfl (pq_then pq_body) ⟨hE, hB1_0, hB1_1, trivial⟩ rfl (fun w hw => R_extract rfl rfl) ?_
  have h0 := hB1_2
  refine H_op (i := 7) (by kernel_rfl) rfl rfl (D_storeA Try.sizeOf53 hB1_2 rfl rfl rfl rfl rfl (l' := (Sg.zero).l) rfl (fun w2_7 k2_7 hB1_2 => ?_))
  replace hE := hE.kp k2_7 lB1_2
  replace hB1_0 := hB1_0.kp k2_7 nB1_0B1_2
  replace hB1_1 := hB1_1.kp k2_7 nB1_1B1_2
  replace hK2_1 := hK2_1.kp k2_7 nB1_2K2_1.symm
  refine ⟨⟨hE, hB1_0, hB1_1, trivial⟩, ?_⟩
  refine H_take (i := 8) rfl (by kernel_rfl) (by kernel_rfl) (by kernel_rfl) rfl (pq_then pq_body) ⟨hE, hB1_0, hB1_1, trivial⟩ rfl (fun w hw => R_assign rfl) ?_
  refine H_done (by kernel_rfl) ?_
  refine T_tn ?_
  refine wp_ret ?_
  refine retct (c := (Sg.zero).l) (v2 := .bool false) rfl rfl rfl Try.isAgg53 Try.sizeOf53 hB1_2 rfl rfl ⟨?_, hE⟩
  rfl

-- forkledger/forkledgerlaw8.awake
set_option maxRecDepth 4000 in
set_option maxHeartbeats 1000000 in
theorem c56  (w : World) : Calls Try.prog 56 [].toArray w (Ret w (.bool true)) := by
  refine enter Try.func56 Try.ntmps56 rfl rfl ?_
  have hE := Ext.refl w
  refine wp_seq ?_
  refine W_region ?_
  refine L (D_v (R_assign rfl) ?_)
  refine S_nil ?_
  refine T_tn ?_
  refine wp_seq ?_
  refine W_region ?_
  refine L (D_alloc (c := (Nm.zero).l) Try.zeroValue24 rfl (fun aB2_0 w2_0 e2_0 gB2_0 hB2_0 => ?_))
  have lB2_0 := Nat.le_trans hE.size gB2_0
  replace hE := hE.trans e2_0
  refine S_nil ?_
  refine T_tn ?_
  refine wp_seq ?_
  refine W_region ?_
  refine L (D_v (R_buildS (vs := [(0, i64 (3)), (2, i64 (1)), (4, i64 (1))]) (c := ((⟨3, 0, 1, 0, 1, 0, Nm.zero, Nm.zero⟩ : Vt)).l) Try.runUnderlying26 places26 Try.zeroValue26 rfl rfl) ?_)
  refine L (D_alloc (c := (Vt.zero).l) Try.zeroValue26 rfl (fun aB3_1 w3_1 e3_1 gB3_1 hB3_1 => ?_))
  have lB3_1 := Nat.le_trans hE.size gB3_1
  have nB2_0B3_1 := hB2_0.ne gB3_1
  replace hE := hE.trans e3_1
  replace hB2_0 := hB2_0.ext e3_1
  have h0 := hB3_1
  refine L (D_storeA Try.sizeOf26 hB3_1 rfl rfl rfl rfl rfl (l' := ((⟨3, 0, 1, 0, 1, 0, Nm.zero, Nm.zero⟩ : Vt)).l) rfl (fun w3_2 k3_2 hB3_1 => ?_))
  replace hE := hE.kp k3_2 lB3_1
  replace hB2_0 := hB2_0.kp k3_2 nB2_0B3_1
  refine S_nil ?_
  refine T_tn ?_
  refine wp_seq ?_
  refine W_region ?_
  refine L (D_v (R_loadA (c := (Nm.zero).l) Try.isAgg24 Try.sizeOf24 hB2_0 rfl rfl rfl) ?_)
  refine L (D_v (R_loadA (c := ((⟨3, 0, 1, 0, 1, 0, Nm.zero, Nm.zero⟩ : Vt)).l) Try.isAgg26 Try.sizeOf26 hB3_1 rfl rfl rfl) ?_)
  refine L (D_call (R_callF Try.call53 rfl rfl) (c53_n (Nm.zero) ((⟨3, 0, 1, 0, 1, 0, Nm.zero, Nm.zero⟩ : Vt)) _) (fun w4_2 e4_2 => ?_))
  replace hE := hE.trans e4_2
  replace hB2_0 := hB2_0.ext e4_2
  replace hB3_1 := hB3_1.ext e4_2
  refine L (D_v (R_move rfl) ?_)
  refine L (D_v (R_extract rfl rfl) ?_)
  refine L (D_v (R_extract rfl rfl) ?_)
  refine L (D_alloc (c := (Sg.zero).l) Try.zeroValue53 rfl (fun aB4_6 w4_6 e4_6 gB4_6 hB4_6 => ?_))
  have lB4_6 := Nat.le_trans hE.size gB4_6
  have nB2_0B4_6 := hB2_0.ne gB4_6
  have nB3_1B4_6 := hB3_1.ne gB4_6
  replace hE := hE.trans e4_6
  replace hB2_0 := hB2_0.ext e4_6
  replace hB3_1 := hB3_1.ext e4_6
  have h0 := hB4_6
  refine L (D_storeA Try.sizeOf53 hB4_6 rfl rfl rfl rfl rfl (l' := (Sg.zero).l) rfl (fun w4_7 k4_7 hB4_6 => ?_))
  replace hE := hE.kp k4_7 lB4_6
  replace hB2_0 := hB2_0.kp k4_7 nB2_0B4_6
  replace hB3_1 := hB3_1.kp k4_7 nB3_1B4_6
  refine L (D_v (R_assign rfl) ?_)
  refine S_nil ?_
  refine T_tn ?_
  refine wp_seq ?_
  refine W_region ?_
  refine L (D_v (R_move rfl) ?_)
  refine L (D_v (R_not rfl) ?_)
  refine L (D_v (R_move rfl) ?_)
  refine L (D_v (R_cast (v' := .bool true) (R_pick rfl rfl rfl) rfl) ?_)
  refine L (D_v (R_move rfl) ?_)
  refine L (D_on rfl rfl (D_v (R_loadA (c := ((⟨3, 0, 1, 0, 1, 0, Nm.zero, Nm.zero⟩ : Vt)).l) Try.isAgg26 Try.sizeOf26 hB3_1 rfl rfl rfl) ?_))
  refine L (D_on rfl rfl (D_v (R_buildS (vs := [(0, .agg ((⟨3, 0, 1, 0, 1, 0, Nm.zero, Nm.zero⟩ : Vt)).l.toArray)]) (c := (mkSg ((⟨3, 0, 1, 0, 1, 0, Nm.zero, Nm.zero⟩ : Vt)) (.slice none 0 0) []).l) Try.runUnderlying53 places53 Try.zeroValue53 (mapp1 rfl) (fill53z _)) ?_))
  refine L (D_on rfl rfl (D_v (R_loadA (c := ((⟨3, 0, 1, 0, 1, 0, Nm.zero, Nm.zero⟩ : Vt)).l) Try.isAgg26 Try.sizeOf26 hB3_1 rfl rfl rfl) ?_))
  refine L (D_on rfl rfl (D_buildB (vs := [(0, u8 (1))]) (b := [1]) Try.underlying31 Try.sizeOf5 Try.zeroValue5 rfl (fillB1 _) rfl rfl rfl (fun v5_8 w5_8 o5_8 e5_8 => ?_)))
  replace o5_8 := o5_8.lo hE.size
  replace hE := hE.trans e5_8
  replace hB3_1 := hB3_1.ext e5_8
  have k5_9 : Sg.okf w.heap.size w5_8 (mkSg ((⟨3, 0, 1, 0, 1, 0, Nm.zero, Nm.zero⟩ : Vt)) v5_8 [1]) := mkSg_ok _ (Bf.own o5_8)
  refine L (D_on rfl rfl (D_v (R_buildS (vs := [(0, .agg ((⟨3, 0, 1, 0, 1, 0, Nm.zero, Nm.zero⟩ : Vt)).l.toArray), (1, v5_8)]) (c := (mkSg ((⟨3, 0, 1, 0, 1, 0, Nm.zero, Nm.zero⟩ : Vt)) v5_8 [1]).l) Try.runUnderlying53 places53 Try.zeroValue53 (mapp2 rfl rfl) (fill53 _ o5_8.bs)) ?_))
  refine L (D_on rfl rfl (D_buildL2 (C := cS) (lo := w.heap.size) (y := (mkSg ((⟨3, 0, 1, 0, 1, 0, Nm.zero, Nm.zero⟩ : Vt)) (.slice none 0 0) [])) (y2 := (mkSg ((⟨3, 0, 1, 0, 1, 0, Nm.zero, Nm.zero⟩ : Vt)) v5_8 [1])) Try.underlying46 Try.sizeOf53 Try.zeroValue53 (mapp2 rfl rfl) (by decide) (mkSg_ok _ (Bf.nil _ _)) k5_9 (fun v5_10 w5_10 o5_10 e5_10 => ?_)))
  replace o5_10 := o5_10.low hE.size
  replace hE := hE.trans e5_10
  replace hB3_1 := hB3_1.ext e5_10
  replace o5_8 := o5_8.ext e5_10
  replace k5_9 := k5_9.fb (Fb.ext e5_10)
  refine L (D_on rfl rfl (D_callE (R_callF Try.call57 rfl rfl) (c57 w.heap.size v5_10 ([(mkSg ((⟨3, 0, 1, 0, 1, 0, Nm.zero, Nm.zero⟩ : Vt)) (.slice none 0 0) []), (mkSg ((⟨3, 0, 1, 0, 1, 0, Nm.zero, Nm.zero⟩ : Vt)) v5_8 [1])]) _ (Nat.le_trans (Nat.le_refl _) hE.size) (by (try simp only [List.length_take, List.length_drop, List.length_append, List.length_cons, List.length_nil, List.length_replicate, List.length_set, Nm.b_len, be2_len]); omega) o5_10.ls two_sig) (fun v5_11 w5_11 e5_11 p5_11 => ?_)))
  obtain ⟨y5_11, o5_11, zz5_11, za5_11, zb5_11, zc5_11, zd5_11⟩ := p5_11
  have zv5_10_v5_11 := own_apart o5_10.1 o5_11.1
  have zv5_11_v5_10 := fun k hk hk2 => zv5_10_v5_11 k hk2 hk
  replace o5_11 := o5_11.low hE.size
  replace hE := hE.trans e5_11
  replace hB3_1 := hB3_1.ext e5_11
  replace o5_8 := o5_8.ext e5_11
  replace o5_10 := o5_10.ext e5_11
  replace k5_9 := k5_9.fb (Fb.ext e5_11)
  refine L (D_on rfl rfl (D_v (R_len Try.underlying46 rfl o5_11.ls.1) ?_))
  refine L (D_on rfl rfl (D_v (R_eqlI rfl rfl) ?_))
  refine L (D_v (R_pick rfl rfl rfl) ?_)
  refine L (D_v (R_assign rfl) ?_)
  refine S_nil ?_
  refine T_tn ?_
  refine wp_ret ?_
  have hcan := can_of zc5_11 zb5_11 zd5_11
  have hone := can_one hcan
  refine ret1 (v := .bool _) rfl rfl ⟨congrArg (fun b => Ending.returned (Value.bool b)) ?_, hE⟩
  simp [hone]
end Go.Proofs.Yteeopgpgbdhmhaa
