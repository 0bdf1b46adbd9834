/- What the law needs, part 5. No condition. -/
import Derived.Maps.Keyed
import Derived.DeepKeys5
import Derived.Test.YteeopgpgbdhmhaaSgn4
namespace Go.Proofs.Yteeopgpgbdhmhaa
open Go.RowKit
set_option linter.unusedVariables false
set_option linter.unusedSimpArgs false
attribute [local irreducible] wpList wpO H wpQuiet wpStill Code.wp Exit.then Exit.inBlock bodyPost Code.rounds Calls valid lessV hless num between
set_option maxRecDepth 4000 in
set_option maxHeartbeats 1000000 in
theorem c180 (n : Nm) (c : Nat) (w : World) : Calls Try.prog 180 [n.v, i64 ((c : Nat) : Int)].toArray w (Ret w (startN n c).v) := by
  refine enter Try.func180 Try.ntmps180 rfl rfl ?_
  have hE := Ext.refl w
  refine wp_seq ?_
  refine W_region ?_
  refine L (D_box (c := (n).l) (rfl) (fun aB1_0 w1_0 e1_0 gB1_0 hB1_0 => ?_))
  have lB1_0 := Nat.le_trans hE.size gB1_0
  replace hE := hE.trans e1_0
  refine L (D_alloc (c := (Nm.zero).l) Try.zeroValue24 rfl (fun aB1_1 w1_1 e1_1 gB1_1 hB1_1 => ?_))
  have lB1_1 := Nat.le_trans hE.size gB1_1
  have nB1_0B1_1 := hB1_0.ne gB1_1
  replace hE := hE.trans e1_1
  replace hB1_0 := hB1_0.ext e1_1
  refine S_nil ?_
  refine T_tn ?_
  refine wp_seq ?_
  refine W_region ?_
  refine L (D_v (R_sliceArr (len := 7) Try.underlying24 Try.sizeOf5 rfl) ?_)
  refine L (D_v (R_move rfl) ?_)
  refine L (D_v (R_convB Try.runUnderlying3 rfl) ?_)
  refine L (D_buildB (vs := [(0, u8 (by8 (((c : Nat) : Int))))]) (b := [(by8 (((c : Nat) : Int)))]) Try.underlying31 Try.sizeOf5 Try.zeroValue5 rfl (fillB1 _) rfl rfl rfl (fun v2_3 w2_3 o2_3 e2_3 => ?_))
  replace o2_3 := o2_3.lo hE.size
  replace hE := hE.trans e2_3
  replace hB1_0 := hB1_0.ext e2_3
  replace hB1_1 := hB1_1.ext e2_3
  refine L (D_appendFullB (k := 8) elt5 Try.underlying31 rfl rfl (hB1_0.bs 0 (n).b rfl rfl rfl) rfl rfl o2_3.bs (Nat.le_of_ble_eq_true rfl) (by (try simp only [List.length_take, List.length_drop, List.length_append, List.length_cons, List.length_nil, List.length_replicate, List.length_set, Nm.b_len, be2_len]); omega) (fun v2_4 w2_4 o2_4 e2_4 => ?_))
  have zv2_3_v2_4 := own_apart o2_3 o2_4
  have zv2_4_v2_3 := fun k hk hk2 => zv2_3_v2_4 k hk2 hk
  replace o2_4 := o2_4.lo hE.size
  replace hE := hE.trans e2_4
  replace hB1_0 := hB1_0.ext e2_4
  replace hB1_1 := hB1_1.ext e2_4
  replace o2_3 := o2_3.ext e2_4
  refine L (D_call (R_callF Try.call37 rfl rfl) (c37 (32) v2_4 (((n).b ++ [(by8 (((c : Nat) : Int)))])) _ o2_4.bs (by (try simp only [List.length_take, List.length_drop, List.length_append, List.length_cons, List.length_nil, List.length_replicate, List.length_set, Nm.b_len, be2_len]); omega)) (fun w2_5 e2_5 => ?_))
  replace hE := hE.trans e2_5
  replace hB1_0 := hB1_0.ext e2_5
  replace hB1_1 := hB1_1.ext e2_5
  replace o2_3 := o2_3.ext e2_5
  replace o2_4 := o2_4.ext e2_5
  have xo2_3 := own_neB o2_3 hB1_1 rfl
  have xo2_4 := own_neB o2_4 hB1_1 rfl
  have h0 := hB1_1
  refine L (D_storeA Try.sizeOf24 hB1_1 rfl rfl rfl rfl rfl (l' := ((hashB (32 :: ((n).b ++ [(by8 (((c : Nat) : Int)))])))).l) rfl (fun w2_6 k2_6 hB1_1 => ?_))
  replace hE := hE.kp k2_6 lB1_1
  replace hB1_0 := hB1_0.kp k2_6 nB1_0B1_1
  replace o2_3 := o2_3.kp k2_6 xo2_3
  replace o2_4 := o2_4.kp k2_6 xo2_4
  refine S_nil ?_
  refine T_tn ?_
  refine wp_ret ?_
  refine retc (c := ((hashB (32 :: ((n).b ++ [(by8 (((c : Nat) : Int)))])))).l) rfl rfl Try.isAgg24 Try.sizeOf24 hB1_1 rfl rfl ⟨?_, hE⟩
  rfl
set_option maxRecDepth 4000 in
set_option maxHeartbeats 1000000 in
theorem c145 (n : Nm) (c : Nat) (w : World) : Calls Try.prog 145 [n.v, i64 ((c : Nat) : Int)].toArray w (Ret w (startN n c).v) := by
  refine enter Try.func145 Try.ntmps145 rfl rfl ?_
  have hE := Ext.refl w
  refine wp_seq ?_
  refine W_region ?_
  refine L (D_box (c := (n).l) (rfl) (fun aB1_0 w1_0 e1_0 gB1_0 hB1_0 => ?_))
  have lB1_0 := Nat.le_trans hE.size gB1_0
  replace hE := hE.trans e1_0
  refine L (D_alloc (c := (Nm.zero).l) Try.zeroValue24 rfl (fun aB1_1 w1_1 e1_1 gB1_1 hB1_1 => ?_))
  have lB1_1 := Nat.le_trans hE.size gB1_1
  have nB1_0B1_1 := hB1_0.ne gB1_1
  replace hE := hE.trans e1_1
  replace hB1_0 := hB1_0.ext e1_1
  refine S_nil ?_
  refine T_tn ?_
  refine wp_seq ?_
  refine W_region ?_
  refine L (D_build0 Try.underlying31 Try.sizeOf5 (fun v2_0 w2_0 o2_0 e2_0 => ?_))
  replace o2_0 := o2_0.lo hE.size
  replace hE := hE.trans e2_0
  replace hB1_0 := hB1_0.ext e2_0
  replace hB1_1 := hB1_1.ext e2_0
  refine L (D_v (R_sliceArr (len := 7) Try.underlying24 Try.sizeOf5 rfl) ?_)
  refine L (D_appendB elt5 Try.underlying31 rfl rfl o2_0 (hB1_0.bs 0 (n).b rfl rfl rfl) (by (try simp only [List.length_take, List.length_drop, List.length_append, List.length_cons, List.length_nil, List.length_replicate, List.length_set, Nm.b_len, be2_len]); omega) hE.size (fun v2_2 w2_2 o2_2 g2_2 => ?_))
  replace hE := hE.grown g2_2 (fun k hk => own_ge o2_0 hk)
  replace hB1_0 := hB1_0.grown g2_2 (own_neB o2_0 hB1_0 rfl)
  replace hB1_1 := hB1_1.grown g2_2 (own_neB o2_0 hB1_1 rfl)
  refine L (D_v (R_move rfl) ?_)
  refine L (D_v (R_convB Try.runUnderlying3 rfl) ?_)
  refine L (D_buildB (vs := [(0, u8 (by8 (((c : Nat) : Int))))]) (b := [(by8 (((c : Nat) : Int)))]) Try.underlying31 Try.sizeOf5 Try.zeroValue5 rfl (fillB1 _) rfl rfl rfl (fun v2_5 w2_5 o2_5 e2_5 => ?_))
  have zv2_2_v2_5 := own_apart o2_2 o2_5
  have zv2_5_v2_2 := fun k hk hk2 => zv2_2_v2_5 k hk2 hk
  replace o2_5 := o2_5.lo hE.size
  replace hE := hE.trans e2_5
  replace hB1_0 := hB1_0.ext e2_5
  replace hB1_1 := hB1_1.ext e2_5
  replace o2_2 := o2_2.ext e2_5
  refine L (D_appendB elt5 Try.underlying31 rfl rfl o2_2 o2_5.bs (by (try simp only [List.length_take, List.length_drop, List.length_append, List.length_cons, List.length_nil, List.length_replicate, List.length_set, Nm.b_len, be2_len]); omega) hE.size (fun v2_6 w2_6 o2_6 g2_6 => ?_))
  replace hE := hE.grown g2_6 (fun k hk => own_ge o2_2 hk)
  replace hB1_0 := hB1_0.grown g2_6 (own_neB o2_2 hB1_0 rfl)
  replace hB1_1 := hB1_1.grown g2_6 (own_neB o2_2 hB1_1 rfl)
  replace o2_5 := o2_5.grown g2_6 (zv2_5_v2_2)
  refine L (D_call (R_callF Try.call88 rfl rfl) (c88 (32) v2_6 ((([] ++ (n).b) ++ [(by8 (((c : Nat) : Int)))])) _ o2_6.bs (by (try simp only [List.length_take, List.length_drop, List.length_append, List.length_cons, List.length_nil, List.length_replicate, List.length_set, Nm.b_len, be2_len]); omega)) (fun w2_7 e2_7 => ?_))
  replace hE := hE.trans e2_7
  replace hB1_0 := hB1_0.ext e2_7
  replace hB1_1 := hB1_1.ext e2_7
  replace o2_5 := o2_5.ext e2_7
  replace o2_6 := o2_6.ext e2_7
  have xo2_5 := own_neB o2_5 hB1_1 rfl
  have xo2_6 := own_neB o2_6 hB1_1 rfl
  have h0 := hB1_1
  refine L (D_storeA Try.sizeOf24 hB1_1 rfl rfl rfl rfl rfl (l' := ((hashB (32 :: (([] ++ (n).b) ++ [(by8 (((c : Nat) : Int)))])))).l) rfl (fun w2_8 k2_8 hB1_1 => ?_))
  replace hE := hE.kp k2_8 lB1_1
  replace hB1_0 := hB1_0.kp k2_8 nB1_0B1_1
  replace o2_5 := o2_5.kp k2_8 xo2_5
  replace o2_6 := o2_6.kp k2_8 xo2_6
  refine S_nil ?_
  refine T_tn ?_
  refine wp_ret ?_
  refine retc (c := ((hashB (32 :: (([] ++ (n).b) ++ [(by8 (((c : Nat) : Int)))])))).l) rfl rfl Try.isAgg24 Try.sizeOf24 hB1_1 rfl rfl ⟨?_, hE⟩
  rfl
set_option maxRecDepth 4000 in
set_option maxHeartbeats 2000000 in
theorem c163 (n : Nm) (w : World) : Calls Try.prog 163 [n.v].toArray w (Ret w (onePub n).v) := by
  refine enter Try.func163 Try.ntmps163 rfl rfl ?_
  have hE := Ext.refl w
  refine wp_seq ?_
  refine W_region ?_
  refine L (D_box (c := (n).l) (rfl) (fun aB1_0 w1_0 e1_0 gB1_0 hB1_0 => ?_))
  have lB1_0 := Nat.le_trans hE.size gB1_0
  replace hE := hE.trans e1_0
  refine L (D_alloc (c := (Nm.zero).l) Try.zeroValue24 rfl (fun aB1_1 w1_1 e1_1 gB1_1 hB1_1 => ?_))
  have lB1_1 := Nat.le_trans hE.size gB1_1
  have nB1_0B1_1 := hB1_0.ne gB1_1
  replace hE := hE.trans e1_1
  replace hB1_0 := hB1_0.ext e1_1
  refine S_nil ?_
  refine T_tn ?_
  refine wp_seq ?_
  refine W_region ?_
  refine L (D_makeL (C := cN) (lo := w.heap.size) (l := 18) (c := 18) mk24 Try.underlying45 rfl rfl (by (try simp only [List.length_take, List.length_drop, List.length_append, List.length_cons, List.length_nil, List.length_replicate, List.length_set, Nm.b_len, be2_len]); omega) (by (try simp only [List.length_take, List.length_drop, List.length_append, List.length_cons, List.length_nil, List.length_replicate, List.length_set, Nm.b_len, be2_len]); omega) (by (try simp only [List.length_take, List.length_drop, List.length_append, List.length_cons, List.length_nil, List.length_replicate, List.length_set, Nm.b_len, be2_len]); omega) (fun v2_0 w2_0 o2_0 e2_0 => ?_))
  have yv2_0_B1_0 : Value.ownBlock v2_0 ≠ some aB1_0 := fun hk => absurd (own_ge o2_0.1 hk) (Nat.not_le.2 hB1_0.lt)
  have yv2_0_B1_1 : Value.ownBlock v2_0 ≠ some aB1_1 := fun hk => absurd (own_ge o2_0.1 hk) (Nat.not_le.2 hB1_1.lt)
  replace o2_0 := o2_0.low hE.size
  replace hE := hE.trans e2_0
  replace hB1_0 := hB1_0.ext e2_0
  replace hB1_1 := hB1_1.ext e2_0
  refine L (D_v (R_assign rfl) ?_)
  refine S_nil ?_
  refine T_tn ?_
  refine wp_seq ?_
  refine wp_seq ?_
  refine W_region ?_
  refine L (D_v (R_move rfl) ?_)
  refine S_nil ?_
  refine T_tn ?_
  refine wp_block ?_
  refine W_loop (fun mz g W => ∃ (es : List Nm) (c : Nat), mz = 18 - c ∧ g 1 = .pointer (some ⟨aB1_0, 0, none⟩) ∧ g 2 = .pointer (some ⟨aB1_1, 0, none⟩) ∧ g 3 = v2_0 ∧ g 6 = i64 ((c : Nat) : Int) ∧ Ext w W ∧ Blk W aB1_0 (n).l 24 ∧ Blk W aB1_1 (Nm.zero).l 24 ∧ Ow cN w.heap.size w.heap.size W v2_0 es ∧ c ≤ 18 ∧ es.length = 18 ∧ es.take c = (oneL n).take c) ⟨_, 0, rfl, rfl, rfl, rfl, rfl, hE, hB1_0, hB1_1, o2_0, (Nat.zero_le _), (by simp), (by simp)⟩ ?_
  rintro mz f4 w4l ⟨es, c, hm, q1, q2, q3, q6, hE, hB1_0, hB1_1, ov2_0, hc, hl, ht⟩
  refine wp_seq ?_
  refine W_region ?_
  refine L (D_v (R_lssI q6 rfl) ?_)
  refine S_nil ?_
  refine T_tn ?_
  refine wp_seq ?_
  refine W_if rfl (fun c1 => ?_) (fun c1 => ?_)
  ·
    have lk : c < 18 := by have h1 := of_decide_eq_true c1; (try rw [digits_len] at h1); omega
    refine wp_skip ?_
    refine T_tn ?_
    refine wp_seq ?_
    refine wp_block ?_
    refine wp_seq ?_
    refine W_region ?_
    refine L (D_v (R_move q6) ?_)
    refine L (D_v (R_assign rfl) ?_)
    refine S_nil ?_
    refine T_tn ?_
    refine W_region ?_
    refine L (D_v (R_move q3) ?_)
    refine L (D_v (R_move rfl) ?_)
    refine L (D_v (R_loadA (c := (n).l) Try.isAgg24 Try.sizeOf24 hB1_0 q1 rfl rfl) ?_)
    refine L (D_v (R_move rfl) ?_)
    refine L (D_call (R_callF Try.call180 rfl rfl) (c180 (n) (c) _) (fun w7_4 e7_4 => ?_))
    replace hE := hE.trans e7_4
    replace hB1_0 := hB1_0.ext e7_4
    replace hB1_1 := hB1_1.ext e7_4
    replace ov2_0 := ov2_0.ext e7_4
    refine L (D_v (R_move rfl) ?_)
    refine L (D_call (R_callF Try.call179 rfl rfl) (c179 ((startN n (c))) (c) (0) (15) _ (by omega) (by omega) (by omega)) (fun w7_6 e7_6 => ?_))
    replace hE := hE.trans e7_6
    replace hB1_0 := hB1_0.ext e7_6
    replace hB1_1 := hB1_1.ext e7_6
    replace ov2_0 := ov2_0.ext e7_6
    refine L (D_v (R_elAddr (i := c) Try.underlying45 Try.sizeOf24 rfl rfl ov2_0.ls.1 (by (try simp only [List.length_take, List.length_drop, List.length_append, List.length_cons, List.length_nil, List.length_replicate, List.length_set, Nm.b_len, be2_len]); omega)) ?_)
    refine L (D_stL (C := cN) (i := c) (c := (wk (c) (15 - 0) (0) (startN n (c)))) (by decide) Try.sizeOf24 rfl rfl ov2_0 (Nat.le_refl _) (by (try simp only [List.length_take, List.length_drop, List.length_append, List.length_cons, List.length_nil, List.length_replicate, List.length_set, Nm.b_len, be2_len]); omega) trivial (fun w7_8 o7_8 g7_8 f7_8 => ?_))
    replace hE := hE.grown g7_8 (fun k hk => own_ge ov2_0.1 hk)
    replace hB1_0 := hB1_0.grown g7_8 (yv2_0_B1_0)
    replace hB1_1 := hB1_1.grown g7_8 (yv2_0_B1_1)
    refine S_nil ?_
    refine T_bn ?_
    refine T_tn ?_
    refine W_region ?_
    refine L (D_v (R_addN (m := c) (j := 1) q6 rfl (by (try simp only [List.length_take, List.length_drop, List.length_append, List.length_cons, List.length_nil, List.length_replicate, List.length_set, Nm.b_len, be2_len]); omega)) ?_)
    refine L (D_v (R_move rfl) ?_)
    refine S_nil ?_
    refine T_tn ?_
    refine ⟨_, _, ?_, rfl, _, c + 1, rfl, q1, q2, q3, rfl, hE, hB1_0, hB1_1, o7_8, ?_, ?_, ?_⟩
    all_goals first | omega | (simp only [List.length_set]; exact hl) | exact fill_next ht (by omega) (oneL_at n lk)
  ·
    have lk : ¬ c < 18 := by have h1 := of_decide_eq_false c1; (try rw [digits_len] at h1); omega
    refine wp_exit ?_
    refine T_te ?_
    refine T_te ?_
    refine T_be ?_
    refine T_tn ?_
    refine wp_seq ?_
    refine W_region ?_
    refine L (D_v (R_move q3) ?_)
    refine L (D_call (R_callF Try.call181 rfl rfl) (c181 v2_0 (es) _ (by (try simp only [List.length_take, List.length_drop, List.length_append, List.length_cons, List.length_nil, List.length_replicate, List.length_set, Nm.b_len, be2_len]); omega) (ov2_0.ls.lev fun _ _ _ => trivial)) (fun w6_1 e6_1 => ?_))
    replace hE := hE.trans e6_1
    replace hB1_1 := hB1_1.ext e6_1
    replace ov2_0 := ov2_0.ext e6_1
    have xov2_0 := yv2_0_B1_1
    have h0 := hB1_1
    refine L (D_storeA Try.sizeOf24 hB1_1 q2 rfl rfl rfl rfl (l' := ((pubE (es))).l) rfl (fun w6_2 k6_2 hB1_1 => ?_))
    have f6_2 := Fb.kp k6_2 (Nat.le_trans (Nat.le_refl _) lB1_1) (Blk.notB h0 rfl)
    replace hE := hE.kp k6_2 lB1_1
    replace ov2_0 := ov2_0.kp k6_2 xov2_0 f6_2
    refine S_nil ?_
    refine T_tn ?_
    refine wp_ret ?_
    refine retc (c := ((pubE (es))).l) rfl q2 Try.isAgg24 Try.sizeOf24 hB1_1 rfl rfl ⟨?_, hE⟩
    obtain rfl : c = 18 := by omega
    have hes : es = oneL n := fill_all ht (by omega) (by rw [oneL_len]; omega)
    rw [hes]; rfl
set_option maxRecDepth 4000 in
set_option maxHeartbeats 2000000 in
theorem c142 (n : Nm) (w : World) : Calls Try.prog 142 [n.v].toArray w (Ret w (onePub n).v) := by
  refine enter Try.func142 Try.ntmps142 rfl rfl ?_
  have hE := Ext.refl w
  refine wp_seq ?_
  refine W_region ?_
  refine L (D_box (c := (n).l) (rfl) (fun aB1_0 w1_0 e1_0 gB1_0 hB1_0 => ?_))
  have lB1_0 := Nat.le_trans hE.size gB1_0
  replace hE := hE.trans e1_0
  refine L (D_alloc (c := (Nm.zero).l) Try.zeroValue24 rfl (fun aB1_1 w1_1 e1_1 gB1_1 hB1_1 => ?_))
  have lB1_1 := Nat.le_trans hE.size gB1_1
  have nB1_0B1_1 := hB1_0.ne gB1_1
  replace hE := hE.trans e1_1
  replace hB1_0 := hB1_0.ext e1_1
  refine S_nil ?_
  refine T_tn ?_
  refine wp_seq ?_
  refine W_region ?_
  refine L (D_v (R_assign rfl) ?_)
  refine S_nil ?_
  refine T_tn ?_
  refine wp_seq ?_
  refine wp_seq ?_
  refine W_region ?_
  refine L (D_v (R_assign rfl) ?_)
  refine S_nil ?_
  refine T_tn ?_
  refine wp_block ?_
  refine W_loop (fun mz g W => ∃ (es : List Nm) (c : Nat) (r3 : Value), mz = 18 - c ∧ g 1 = .pointer (some ⟨aB1_0, 0, none⟩) ∧ g 2 = .pointer (some ⟨aB1_1, 0, none⟩) ∧ g 3 = r3 ∧ g 4 = i64 ((c : Nat) : Int) ∧ Ext w W ∧ Blk W aB1_0 (n).l 24 ∧ Blk W aB1_1 (Nm.zero).l 24 ∧ Ow cN w.heap.size w.heap.size W r3 es ∧ Value.ownBlock r3 ≠ some aB1_0 ∧ Value.ownBlock r3 ≠ some aB1_1 ∧ c ≤ 18 ∧ es = (oneL n).take c) ⟨[], 0, _, rfl, rfl, rfl, rfl, rfl, hE, hB1_0, hB1_1, (Ow.nil cN w.heap.size _ _), (fun h => nomatch (show (none : Option Nat) = some _ from h)), (fun h => nomatch (show (none : Option Nat) = some _ from h)), (Nat.zero_le _), (by simp)⟩ ?_
  rintro mz f4 w4l ⟨es, c, r3, hm, q1, q2, q3, q4, hE, hB1_0, hB1_1, or3, yr3_B1_0, yr3_B1_1, hc, he⟩
  have hel : es.length ≤ 18 := by rw [he, List.length_take]; omega
  refine wp_seq ?_
  refine wp_seq ?_
  refine W_region ?_
  refine L (D_v (R_move q4) ?_)
  refine L (D_v (R_lssI rfl rfl) ?_)
  refine S_nil ?_
  refine T_tn ?_
  refine W_if rfl (fun c1 => ?_) (fun c1 => ?_)
  ·
    have lk : c < 18 := by have h1 := of_decide_eq_true c1; (try rw [digits_len] at h1); omega
    refine wp_skip ?_
    refine T_tn ?_
    refine wp_seq ?_
    refine wp_block ?_
    refine W_region ?_
    refine L (D_v (R_move q3) ?_)
    refine L (D_v (R_loadA (c := (n).l) Try.isAgg24 Try.sizeOf24 hB1_0 q1 rfl rfl) ?_)
    refine L (D_v (R_move q4) ?_)
    refine L (D_call (R_callF Try.call145 rfl rfl) (c145 (n) (c) _) (fun w6_3 e6_3 => ?_))
    replace hE := hE.trans e6_3
    replace hB1_0 := hB1_0.ext e6_3
    replace hB1_1 := hB1_1.ext e6_3
    replace or3 := or3.ext e6_3
    refine L (D_v (R_move q4) ?_)
    refine L (D_call (R_callF Try.call144 rfl rfl) (c144 ((startN n (c))) (c) (0) (15) _ (by omega) (by omega) (by omega)) (fun w6_5 e6_5 => ?_))
    replace hE := hE.trans e6_5
    replace hB1_0 := hB1_0.ext e6_5
    replace hB1_1 := hB1_1.ext e6_5
    replace or3 := or3.ext e6_5
    refine L (D_buildL1 (C := cN) (lo := w.heap.size) (y := (wk (c) (15 - 0) (0) (startN n (c)))) Try.underlying45 Try.sizeOf24 Try.zeroValue24 (mapp1 rfl) (by decide) trivial (fun v6_6 w6_6 o6_6 e6_6 => ?_))
    have yv6_6_B1_0 : Value.ownBlock v6_6 ≠ some aB1_0 := fun hk => absurd (own_ge o6_6.1 hk) (Nat.not_le.2 hB1_0.lt)
    have yv6_6_B1_1 : Value.ownBlock v6_6 ≠ some aB1_1 := fun hk => absurd (own_ge o6_6.1 hk) (Nat.not_le.2 hB1_1.lt)
    have zr3_v6_6 := own_apart or3.1 o6_6.1
    have zv6_6_r3 := fun k hk hk2 => zr3_v6_6 k hk2 hk
    replace o6_6 := o6_6.low hE.size
    replace hE := hE.trans e6_6
    replace hB1_0 := hB1_0.ext e6_6
    replace hB1_1 := hB1_1.ext e6_6
    replace or3 := or3.ext e6_6
    refine L (D_appendL elt24 Try.underlying45 rfl rfl or3 (Nat.le_refl _) o6_6.ls (by (try simp only [List.length_take, List.length_drop, List.length_append, List.length_cons, List.length_nil, List.length_replicate, List.length_set, Nm.b_len, be2_len]); omega) (by (try simp only [List.length_take, List.length_drop, List.length_append, List.length_cons, List.length_nil, List.length_replicate, List.length_set, Nm.b_len, be2_len]); omega) hE.size (fun v6_7 w6_7 o6_7 g6_7 f6_7 sv6_7 => ?_))
    have yv6_7_B1_0 : Value.ownBlock v6_7 ≠ some aB1_0 := fun hk => (sv6_7 _ hk).elim yr3_B1_0 (fun h => absurd h (Nat.not_le.2 hB1_0.lt))
    have yv6_7_B1_1 : Value.ownBlock v6_7 ≠ some aB1_1 := fun hk => (sv6_7 _ hk).elim yr3_B1_1 (fun h => absurd h (Nat.not_le.2 hB1_1.lt))
    have zv6_6_v6_7 : ∀ k, Value.ownBlock v6_6 = some k → Value.ownBlock v6_7 ≠ some k := fun k hk2 hk => (sv6_7 _ hk).elim (fun h => zv6_6_r3 k hk2 h) (fun h => absurd h (Nat.not_le.2 (own_lt o6_6.1 hk2)))
    have zv6_7_v6_6 := fun k hk hk2 => zv6_6_v6_7 k hk2 hk
    replace hE := hE.grown g6_7 (fun k hk => own_ge or3.1 hk)
    replace hB1_0 := hB1_0.grown g6_7 (yr3_B1_0)
    replace hB1_1 := hB1_1.grown g6_7 (yr3_B1_1)
    replace o6_6 := o6_6.grown g6_7 (zv6_6_r3) f6_7
    refine L (D_v (R_assign rfl) ?_)
    refine S_nil ?_
    refine T_bn ?_
    refine T_tn ?_
    refine W_region ?_
    refine L (D_v (R_move q4) ?_)
    refine L (D_v (R_addN (m := c) (j := 1) rfl rfl (by (try simp only [List.length_take, List.length_drop, List.length_append, List.length_cons, List.length_nil, List.length_replicate, List.length_set, Nm.b_len, be2_len]); omega)) ?_)
    refine L (D_v (R_assign rfl) ?_)
    refine S_nil ?_
    refine T_tn ?_
    refine ⟨_, _, ?_, rfl, _, c + 1, _, rfl, q1, q2, rfl, rfl, hE, hB1_0, hB1_1, o6_7, yv6_7_B1_0, yv6_7_B1_1, ?_, ?_⟩
    all_goals first | omega | exact push_next he (oneL_at n lk)
  ·
    have lk : ¬ c < 18 := by have h1 := of_decide_eq_false c1; (try rw [digits_len] at h1); omega
    refine wp_exit ?_
    refine T_te ?_
    refine T_te ?_
    refine T_be ?_
    refine T_tn ?_
    refine wp_seq ?_
    refine W_region ?_
    refine L (D_v (R_move q3) ?_)
    refine L (D_call (R_callF Try.call174 rfl rfl) (c174 r3 (es) _ (by (try simp only [List.length_take, List.length_drop, List.length_append, List.length_cons, List.length_nil, List.length_replicate, List.length_set, Nm.b_len, be2_len]); omega) (or3.ls.lev fun _ _ _ => trivial)) (fun w6_1 e6_1 => ?_))
    replace hE := hE.trans e6_1
    replace hB1_1 := hB1_1.ext e6_1
    replace or3 := or3.ext e6_1
    have xor3 := yr3_B1_1
    have h0 := hB1_1
    refine L (D_storeA Try.sizeOf24 hB1_1 q2 rfl rfl rfl rfl (l' := ((pubE (es))).l) rfl (fun w6_2 k6_2 hB1_1 => ?_))
    have f6_2 := Fb.kp k6_2 (Nat.le_trans (Nat.le_refl _) lB1_1) (Blk.notB h0 rfl)
    replace hE := hE.kp k6_2 lB1_1
    replace or3 := or3.kp k6_2 xor3 f6_2
    refine S_nil ?_
    refine T_tn ?_
    refine wp_ret ?_
    refine retc (c := ((pubE (es))).l) rfl q2 Try.isAgg24 Try.sizeOf24 hB1_1 rfl rfl ⟨?_, hE⟩
    obtain rfl : c = 18 := by omega
    have hes : es = oneL n := push_all he (by rw [oneL_len]; omega)
    rw [hes]; rfl
set_option maxRecDepth 4000 in
set_option maxHeartbeats 2000000 in
theorem c158 (n m : Nm) (w : World) : Calls Try.prog 158 [n.v, m.v].toArray w (RetE w fun r w' => Ow cN w.heap.size w.heap.size w' r (oneSig n m)) := by
  refine enter Try.func158 Try.ntmps158 rfl rfl ?_
  have hE := Ext.refl w
  refine wp_seq ?_
  refine W_region ?_
  refine L (D_box (c := (n).l) (rfl) (fun aB1_0 w1_0 e1_0 gB1_0 hB1_0 => ?_))
  have lB1_0 := Nat.le_trans hE.size gB1_0
  replace hE := hE.trans e1_0
  refine L (D_box (c := (m).l) (rfl) (fun aB1_1 w1_1 e1_1 gB1_1 hB1_1 => ?_))
  have lB1_1 := Nat.le_trans hE.size gB1_1
  have nB1_0B1_1 := hB1_0.ne gB1_1
  replace hE := hE.trans e1_1
  replace hB1_0 := hB1_0.ext e1_1
  refine L (D_v (R_assign rfl) ?_)
  refine S_nil ?_
  refine T_tn ?_
  refine wp_seq ?_
  refine W_region ?_
  refine L (D_makeL (C := cN) (lo := w.heap.size) (l := 18) (c := 18) mk24 Try.underlying45 rfl rfl (by (try simp only [List.length_take, List.length_drop, List.length_append, List.length_cons, List.length_nil, List.length_replicate, List.length_set, Nm.b_len, be2_len]); omega) (by (try simp only [List.length_take, List.length_drop, List.length_append, List.length_cons, List.length_nil, List.length_replicate, List.length_set, Nm.b_len, be2_len]); omega) (by (try simp only [List.length_take, List.length_drop, List.length_append, List.length_cons, List.length_nil, List.length_replicate, List.length_set, Nm.b_len, be2_len]); omega) (fun v2_0 w2_0 o2_0 e2_0 => ?_))
  have yv2_0_B1_0 : Value.ownBlock v2_0 ≠ some aB1_0 := fun hk => absurd (own_ge o2_0.1 hk) (Nat.not_le.2 hB1_0.lt)
  have yv2_0_B1_1 : Value.ownBlock v2_0 ≠ some aB1_1 := fun hk => absurd (own_ge o2_0.1 hk) (Nat.not_le.2 hB1_1.lt)
  replace o2_0 := o2_0.low hE.size
  replace hE := hE.trans e2_0
  replace hB1_0 := hB1_0.ext e2_0
  replace hB1_1 := hB1_1.ext e2_0
  refine L (D_v (R_assign rfl) ?_)
  refine S_nil ?_
  refine T_tn ?_
  refine wp_seq ?_
  refine wp_seq ?_
  refine W_region ?_
  refine L (D_v (R_loadA (c := (m).l) Try.isAgg24 Try.sizeOf24 hB1_1 rfl rfl rfl) ?_)
  refine L (D_callE (R_callF Try.call178 rfl rfl) (c178 (m) _) (fun v3_1 w3_1 e3_1 p3_1 => ?_))
  have o3_1 := p3_1
  replace o3_1 := o3_1.low hE.size
  replace o3_1 := Ow.lev (lo' := w.heap.size) o3_1 (fun _ _ _ => trivial)
  replace hE := hE.trans e3_1
  replace hB1_0 := hB1_0.ext e3_1
  replace hB1_1 := hB1_1.ext e3_1
  replace o2_0 := o2_0.ext e3_1
  refine L (D_v (R_len Try.underlying161 rfl o3_1.ls.1) ?_)
  refine L (D_v (R_move rfl) ?_)
  refine S_nil ?_
  refine T_tn ?_
  refine wp_block ?_
  refine W_loop (fun mz g W => ∃ (es : List Nm) (c : Nat), mz = 18 - c ∧ g 2 = .pointer (some ⟨aB1_0, 0, none⟩) ∧ g 5 = v2_0 ∧ g 10 = v3_1 ∧ g 11 = i64 ((((digits m)).length : Nat) : Int) ∧ g 12 = i64 ((c : Nat) : Int) ∧ Ext w W ∧ Blk W aB1_0 (n).l 24 ∧ Ow cN w.heap.size w.heap.size W v2_0 es ∧ Ow cI w.heap.size w.heap.size W v3_1 (digits m) ∧ c ≤ 18 ∧ es.length = 18 ∧ es.take c = (oneSig n m).take c) ⟨_, 0, rfl, rfl, rfl, rfl, rfl, rfl, hE, hB1_0, o2_0, o3_1, (Nat.zero_le _), (by simp), (by simp)⟩ ?_
  rintro mz f4 w4l ⟨es, c, hm, q2, q5, q10, q11, q12, hE, hB1_0, ov2_0, ov3_1, hc, hl, ht⟩
  refine wp_seq ?_
  refine W_region ?_
  refine L (D_v (R_lssI q12 q11) ?_)
  refine S_nil ?_
  refine T_tn ?_
  refine wp_seq ?_
  refine W_if rfl (fun c1 => ?_) (fun c1 => ?_)
  ·
    have lk : c < 18 := by have h1 := of_decide_eq_true c1; (try rw [digits_len] at h1); omega
    have hd := digit_le m c
    refine wp_skip ?_
    refine T_tn ?_
    refine wp_seq ?_
    refine wp_block ?_
    refine wp_seq ?_
    refine W_region ?_
    refine L (D_v (R_move q12) ?_)
    refine L (D_v (R_elAddr (i := c) Try.underlying161 Try.sizeOf3 q10 q12 ov3_1.ls.1 (by rw [digits_len]; omega)) ?_)
    refine L (D_v (R_ldI (i := c) (y := ((digits m).getD (c) 0)) Try.isAgg3 rfl ov3_1.ls (getD_some (d := 0) (by rw [digits_len]; omega))) ?_)
    refine L (D_v (R_assign rfl) ?_)
    refine L (D_v (R_assign rfl) ?_)
    refine S_nil ?_
    refine T_tn ?_
    refine W_region ?_
    refine L (D_v (R_move q5) ?_)
    refine L (D_v (R_move rfl) ?_)
    refine L (D_v (R_loadA (c := (n).l) Try.isAgg24 Try.sizeOf24 hB1_0 q2 rfl rfl) ?_)
    refine L (D_v (R_move rfl) ?_)
    refine L (D_call (R_callF Try.call180 rfl rfl) (c180 (n) (c) _) (fun w7_4 e7_4 => ?_))
    replace hE := hE.trans e7_4
    replace hB1_0 := hB1_0.ext e7_4
    replace ov2_0 := ov2_0.ext e7_4
    replace ov3_1 := ov3_1.ext e7_4
    refine L (D_v (R_move rfl) ?_)
    refine L (D_v (R_move rfl) ?_)
    refine L (D_call (R_callF Try.call179 rfl rfl) (c179 ((startN n (c))) (c) (0) (((digits m).getD (c) 0)) _ (by omega) (by omega) (by omega)) (fun w7_7 e7_7 => ?_))
    replace hE := hE.trans e7_7
    replace hB1_0 := hB1_0.ext e7_7
    replace ov2_0 := ov2_0.ext e7_7
    replace ov3_1 := ov3_1.ext e7_7
    refine L (D_v (R_elAddr (i := c) Try.underlying45 Try.sizeOf24 rfl rfl ov2_0.ls.1 (by (try simp only [List.length_take, List.length_drop, List.length_append, List.length_cons, List.length_nil, List.length_replicate, List.length_set, Nm.b_len, be2_len]); omega)) ?_)
    refine L (D_stL (C := cN) (i := c) (c := (wk (c) (((digits m).getD (c) 0) - 0) (0) (startN n (c)))) (by decide) Try.sizeOf24 rfl rfl ov2_0 (Nat.le_refl _) (by (try simp only [List.length_take, List.length_drop, List.length_append, List.length_cons, List.length_nil, List.length_replicate, List.length_set, Nm.b_len, be2_len]); omega) trivial (fun w7_9 o7_9 g7_9 f7_9 => ?_))
    replace hE := hE.grown g7_9 (fun k hk => own_ge ov2_0.1 hk)
    replace hB1_0 := hB1_0.grown g7_9 (yv2_0_B1_0)
    replace ov3_1 := ov3_1.grown g7_9 (own_ne ov3_1.1 ov2_0.1 rfl) f7_9
    refine S_nil ?_
    refine T_bn ?_
    refine T_tn ?_
    refine W_region ?_
    refine L (D_v (R_addN (m := c) (j := 1) q12 rfl (by (try simp only [List.length_take, List.length_drop, List.length_append, List.length_cons, List.length_nil, List.length_replicate, List.length_set, Nm.b_len, be2_len]); omega)) ?_)
    refine L (D_v (R_move rfl) ?_)
    refine S_nil ?_
    refine T_tn ?_
    refine ⟨_, _, ?_, rfl, _, c + 1, rfl, q2, q5, q10, q11, rfl, hE, hB1_0, o7_9, ov3_1, ?_, ?_, ?_⟩
    all_goals first | omega | (simp only [List.length_set]; exact hl) | exact fill_next ht (by omega) (oneSig_at n m lk)
  ·
    have lk : ¬ c < 18 := by have h1 := of_decide_eq_false c1; (try rw [digits_len] at h1); omega
    refine wp_exit ?_
    refine T_te ?_
    refine T_te ?_
    refine T_be ?_
    refine T_tn ?_
    refine wp_seq ?_
    refine W_region ?_
    refine L (D_v (R_move q5) ?_)
    refine L (D_v (R_assign rfl) ?_)
    refine S_nil ?_
    refine T_tn ?_
    refine wp_ret ?_
    refine ret1 (v := v2_0) rfl rfl ⟨_, rfl, hE, ?_⟩
    obtain rfl : c = 18 := by omega
    have hes : es = oneSig n m := fill_all ht (by omega) (by rw [oneSig_len]; omega)
    rw [← hes]; exact ov2_0
set_option maxRecDepth 4000 in
set_option maxHeartbeats 2000000 in
theorem c122 (n m : Nm) (w : World) : Calls Try.prog 122 [n.v, m.v].toArray w (RetE w fun r w' => Ow cN w.heap.size w.heap.size w' r (oneSig n m)) := by
  refine enter Try.func122 Try.ntmps122 rfl rfl ?_
  have hE := Ext.refl w
  refine wp_seq ?_
  refine W_region ?_
  refine L (D_box (c := (n).l) (rfl) (fun aB1_0 w1_0 e1_0 gB1_0 hB1_0 => ?_))
  have lB1_0 := Nat.le_trans hE.size gB1_0
  replace hE := hE.trans e1_0
  refine L (D_box (c := (m).l) (rfl) (fun aB1_1 w1_1 e1_1 gB1_1 hB1_1 => ?_))
  have lB1_1 := Nat.le_trans hE.size gB1_1
  have nB1_0B1_1 := hB1_0.ne gB1_1
  replace hE := hE.trans e1_1
  replace hB1_0 := hB1_0.ext e1_1
  refine L (D_v (R_assign rfl) ?_)
  refine S_nil ?_
  refine T_tn ?_
  refine wp_seq ?_
  refine W_region ?_
  refine L (D_v (R_loadA (c := (m).l) Try.isAgg24 Try.sizeOf24 hB1_1 rfl rfl rfl) ?_)
  refine L (D_callE (R_callF Try.call143 rfl rfl) (c143 (m) _) (fun v2_1 w2_1 e2_1 p2_1 => ?_))
  have o2_1 := p2_1
  replace o2_1 := o2_1.low hE.size
  replace o2_1 := Ow.lev (lo' := w.heap.size) o2_1 (fun _ _ _ => trivial)
  replace hE := hE.trans e2_1
  replace hB1_0 := hB1_0.ext e2_1
  replace hB1_1 := hB1_1.ext e2_1
  refine L (D_v (R_assign rfl) ?_)
  refine S_nil ?_
  refine T_tn ?_
  refine wp_seq ?_
  refine W_region ?_
  refine L (D_v (R_assign rfl) ?_)
  refine S_nil ?_
  refine T_tn ?_
  refine wp_seq ?_
  refine wp_seq ?_
  refine W_region ?_
  refine L (D_v (R_assign rfl) ?_)
  refine S_nil ?_
  refine T_tn ?_
  refine wp_block ?_
  refine W_loop (fun mz g W => ∃ (es : List Nm) (c : Nat) (r6 : Value), mz = 18 - c ∧ g 2 = .pointer (some ⟨aB1_0, 0, none⟩) ∧ g 5 = v2_1 ∧ g 6 = r6 ∧ g 7 = i64 ((c : Nat) : Int) ∧ Ext w W ∧ Blk W aB1_0 (n).l 24 ∧ Ow cI w.heap.size w.heap.size W v2_1 (digits m) ∧ Ow cN w.heap.size w.heap.size W r6 es ∧ Value.ownBlock r6 ≠ some aB1_0 ∧ c ≤ 18 ∧ es = (oneSig n m).take c) ⟨[], 0, _, rfl, rfl, rfl, rfl, rfl, hE, hB1_0, o2_1, (Ow.nil cN w.heap.size _ _), (fun h => nomatch (show (none : Option Nat) = some _ from h)), (Nat.zero_le _), (by simp)⟩ ?_
  rintro mz f5 w5l ⟨es, c, r6, hm, q2, q5, q6, q7, hE, hB1_0, ov2_1, or6, yr6_B1_0, hc, he⟩
  have hel : es.length ≤ 18 := by rw [he, List.length_take]; omega
  refine wp_seq ?_
  refine wp_seq ?_
  refine W_region ?_
  refine L (D_v (R_move q7) ?_)
  refine L (D_v (R_lssI rfl rfl) ?_)
  refine S_nil ?_
  refine T_tn ?_
  refine W_if rfl (fun c1 => ?_) (fun c1 => ?_)
  ·
    have lk : c < 18 := by have h1 := of_decide_eq_true c1; (try rw [digits_len] at h1); omega
    have hd := digit_le m c
    refine wp_skip ?_
    refine T_tn ?_
    refine wp_seq ?_
    refine wp_block ?_
    refine W_held (fun W => Ext w W ∧ Blk W aB1_0 (n).l 24 ∧ Ow cI w.heap.size w.heap.size W v2_1 (digits m) ∧ True) mixed (fun w7_99 e7_99 => ?_)
    replace hE := hE.trans e7_99
    replace hB1_0 := hB1_0.ext e7_99
    replace ov2_1 := ov2_1.ext e7_99
    replace or6 := or6.ext e7_99
    refine H_take (i := 0) rfl (by kernel_rfl) (by kernel_rfl) (by kernel_rfl) rfl (pq_block (pq_then (pq_then (pq_block (pq_then pq_body))))) ⟨hE, hB1_0, ov2_1, trivial⟩ rfl (fun w hw => R_move q6) ?_
    refine H_take (i := 1) rfl (by kernel_rfl) (by kernel_rfl) (by kernel_rfl) rfl (pq_block (pq_then (pq_then (pq_block (pq_then pq_body))))) ⟨hE, hB1_0, ov2_1, trivial⟩ rfl (fun w hw => R_loadA (c := (n).l) Try.isAgg24 Try.sizeOf24 hw.2.1 q2 rfl rfl) ?_
    refine H_take (i := 2) rfl (by kernel_rfl) (by kernel_rfl) (by kernel_rfl) rfl (pq_block (pq_then (pq_then (pq_block (pq_then pq_body))))) ⟨hE, hB1_0, ov2_1, trivial⟩ rfl (fun w hw => R_move q7) ?_
    refine H_take (i := 4) rfl (by kernel_rfl) (by kernel_rfl) (by kernel_rfl) rfl (pq_block (pq_then (pq_then (pq_block (pq_then pq_body))))) ⟨hE, hB1_0, ov2_1, trivial⟩ rfl (fun w hw => R_move q7) ?_
    refine H_take (i := 5) rfl (by kernel_rfl) (by kernel_rfl) (by kernel_rfl) rfl (pq_block (pq_then (pq_then (pq_block (pq_then pq_body))))) ⟨hE, hB1_0, ov2_1, trivial⟩ rfl (fun w hw => R_move q5) ?_
    refine H_take (i := 6) rfl (by kernel_rfl) (by kernel_rfl) (by kernel_rfl) rfl (pq_block (pq_then (pq_then (pq_block (pq_then pq_body))))) ⟨hE, hB1_0, ov2_1, trivial⟩ rfl (fun w hw => R_move q7) ?_
    refine H_take (i := 7) rfl (by kernel_rfl) (by kernel_rfl) (by kernel_rfl) rfl (pq_block (pq_then (pq_then (pq_block (pq_then pq_body))))) ⟨hE, hB1_0, ov2_1, trivial⟩ rfl (fun w hw => R_elAddr (i := c) Try.underlying161 Try.sizeOf3 rfl rfl hw.2.2.1.ls.1 (by rw [digits_len]; omega)) ?_
    refine H_take (i := 8) rfl (by kernel_rfl) (by kernel_rfl) (by kernel_rfl) rfl (pq_block (pq_then (pq_then (pq_block (pq_then pq_body))))) ⟨hE, hB1_0, ov2_1, trivial⟩ rfl (fun w hw => R_ldI (i := c) (y := ((digits m).getD (c) 0)) Try.isAgg3 rfl hw.2.2.1.ls (getD_some (d := 0) (by rw [digits_len]; omega))) ?_
    refine H_op (i := 3) (by kernel_rfl) rfl rfl (D_call (R_callF Try.call145 rfl rfl) (c145 (n) (c) _) (fun w7_3 e7_3 => ?_))
    replace hE := hE.trans e7_3
    replace hB1_0 := hB1_0.ext e7_3
    replace ov2_1 := ov2_1.ext e7_3
    replace or6 := or6.ext e7_3
    refine ⟨⟨hE, hB1_0, ov2_1, trivial⟩, ?_⟩
    refine H_op (i := 9) (by kernel_rfl) rfl rfl (D_call (R_callF Try.call144 rfl rfl) (c144 ((startN n (c))) (c) (0) (((digits m).getD (c) 0)) _ (by omega) (by omega) (by omega)) (fun w7_9 e7_9 => ?_))
    replace hE := hE.trans e7_9
    replace hB1_0 := hB1_0.ext e7_9
    replace ov2_1 := ov2_1.ext e7_9
    replace or6 := or6.ext e7_9
    refine ⟨⟨hE, hB1_0, ov2_1, trivial⟩, ?_⟩
    refine H_op (i := 10) (by kernel_rfl) rfl rfl (D_buildL1 (C := cN) (lo := w.heap.size) (y := (wk (c) (((digits m).getD (c) 0) - 0) (0) (startN n (c)))) Try.underlying45 Try.sizeOf24 Try.zeroValue24 (mapp1 rfl) (by decide) trivial (fun v7_10 w7_10 o7_10 e7_10 => ?_))
    have yv7_10_B1_0 : Value.ownBlock v7_10 ≠ some aB1_0 := fun hk => absurd (own_ge o7_10.1 hk) (Nat.not_le.2 hB1_0.lt)
    have zr6_v7_10 := own_apart or6.1 o7_10.1
    have zv7_10_r6 := fun k hk hk2 => zr6_v7_10 k hk2 hk
    replace o7_10 := o7_10.low hE.size
    replace hE := hE.trans e7_10
    replace hB1_0 := hB1_0.ext e7_10
    replace ov2_1 := ov2_1.ext e7_10
    replace or6 := or6.ext e7_10
    refine ⟨⟨hE, hB1_0, ov2_1, trivial⟩, ?_⟩
    refine H_op (i := 11) (by kernel_rfl) rfl rfl (D_appendL elt24 Try.underlying45 rfl rfl or6 (Nat.le_refl _) o7_10.ls (by (try simp only [List.length_take, List.length_drop, List.length_append, List.length_cons, List.length_nil, List.length_replicate, List.length_set, Nm.b_len, be2_len]); omega) (by (try simp only [List.length_take, List.length_drop, List.length_append, List.length_cons, List.length_nil, List.length_replicate, List.length_set, Nm.b_len, be2_len]); omega) hE.size (fun v7_11 w7_11 o7_11 g7_11 f7_11 sv7_11 => ?_))
    have yv7_11_B1_0 : Value.ownBlock v7_11 ≠ some aB1_0 := fun hk => (sv7_11 _ hk).elim yr6_B1_0 (fun h => absurd h (Nat.not_le.2 hB1_0.lt))
    have zv7_10_v7_11 : ∀ k, Value.ownBlock v7_10 = some k → Value.ownBlock v7_11 ≠ some k := fun k hk2 hk => (sv7_11 _ hk).elim (fun h => zv7_10_r6 k hk2 h) (fun h => absurd h (Nat.not_le.2 (own_lt o7_10.1 hk2)))
    have zv7_11_v7_10 := fun k hk hk2 => zv7_10_v7_11 k hk2 hk
    replace hE := hE.grown g7_11 (fun k hk => own_ge or6.1 hk)
    replace hB1_0 := hB1_0.grown g7_11 (yr6_B1_0)
    replace ov2_1 := ov2_1.grown g7_11 (own_ne ov2_1.1 or6.1 rfl) f7_11
    replace o7_10 := o7_10.grown g7_11 (zv7_10_r6) f7_11
    refine ⟨⟨hE, hB1_0, ov2_1, trivial⟩, ?_⟩
    refine H_take (i := 12) rfl (by kernel_rfl) (by kernel_rfl) (by kernel_rfl) rfl (pq_block (pq_then (pq_then (pq_block (pq_then pq_body))))) ⟨hE, hB1_0, ov2_1, trivial⟩ rfl (fun w hw => R_assign rfl) ?_
    refine H_done (by kernel_rfl) ?_
    refine T_bn ?_
    refine T_tn ?_
    refine W_region ?_
    refine L (D_v (R_move q7) ?_)
    refine L (D_v (R_addN (m := c) (j := 1) rfl rfl (by (try simp only [List.length_take, List.length_drop, List.length_append, List.length_cons, List.length_nil, List.length_replicate, List.length_set, Nm.b_len, be2_len]); omega)) ?_)
    refine L (D_v (R_assign rfl) ?_)
    refine S_nil ?_
    refine T_tn ?_
    refine ⟨_, _, ?_, rfl, _, c + 1, _, rfl, q2, q5, rfl, rfl, hE, hB1_0, ov2_1, o7_11, yv7_11_B1_0, ?_, ?_⟩
    all_goals first | omega | exact push_next he (oneSig_at n m lk)
  ·
    have lk : ¬ c < 18 := by have h1 := of_decide_eq_false c1; (try rw [digits_len] at h1); omega
    refine wp_exit ?_
    refine T_te ?_
    refine T_te ?_
    refine T_be ?_
    refine T_tn ?_
    refine wp_seq ?_
    refine W_region ?_
    refine L (D_v (R_move q6) ?_)
    refine L (D_v (R_assign rfl) ?_)
    refine S_nil ?_
    refine T_tn ?_
    refine wp_ret ?_
    refine ret1 (v := r6) rfl rfl ⟨_, rfl, hE, ?_⟩
    obtain rfl : c = 18 := by omega
    have hes : es = oneSig n m := push_all he (by rw [oneSig_len]; omega)
    rw [← hes]; exact or6
set_option maxRecDepth 4000 in
set_option maxHeartbeats 1000000 in
theorem c123 (n : Nm) (lv t j : Nat) (w : World) : Calls Try.prog 123 [n.v, i64 ((lv : Nat) : Int), i64 ((t : Nat) : Int), i64 ((j : Nat) : Int)].toArray w (Ret w (keyN n lv t j).v) := by
  refine enter Try.func123 Try.ntmps123 rfl rfl ?_
  have hE := Ext.refl w
  refine wp_seq ?_
  refine W_region ?_
  refine L (D_box (c := (n).l) (rfl) (fun aB1_0 w1_0 e1_0 gB1_0 hB1_0 => ?_))
  have lB1_0 := Nat.le_trans hE.size gB1_0
  replace hE := hE.trans e1_0
  refine L (D_alloc (c := (Nm.zero).l) Try.zeroValue24 rfl (fun aB1_1 w1_1 e1_1 gB1_1 hB1_1 => ?_))
  have lB1_1 := Nat.le_trans hE.size gB1_1
  have nB1_0B1_1 := hB1_0.ne gB1_1
  replace hE := hE.trans e1_1
  replace hB1_0 := hB1_0.ext e1_1
  refine S_nil ?_
  refine T_tn ?_
  refine wp_seq ?_
  refine W_region ?_
  refine L (D_build0 Try.underlying31 Try.sizeOf5 (fun v2_0 w2_0 o2_0 e2_0 => ?_))
  replace o2_0 := o2_0.lo hE.size
  replace hE := hE.trans e2_0
  replace hB1_0 := hB1_0.ext e2_0
  replace hB1_1 := hB1_1.ext e2_0
  refine L (D_v (R_sliceArr (len := 7) Try.underlying24 Try.sizeOf5 rfl) ?_)
  refine L (D_appendB elt5 Try.underlying31 rfl rfl o2_0 (hB1_0.bs 0 (n).b rfl rfl rfl) (by (try simp only [List.length_take, List.length_drop, List.length_append, List.length_cons, List.length_nil, List.length_replicate, List.length_set, Nm.b_len, be2_len]); omega) hE.size (fun v2_2 w2_2 o2_2 g2_2 => ?_))
  replace hE := hE.grown g2_2 (fun k hk => own_ge o2_0 hk)
  replace hB1_0 := hB1_0.grown g2_2 (own_neB o2_0 hB1_0 rfl)
  replace hB1_1 := hB1_1.grown g2_2 (own_neB o2_0 hB1_1 rfl)
  refine L (D_v (R_move rfl) ?_)
  refine L (D_v (R_convB Try.runUnderlying3 rfl) ?_)
  refine L (D_v (R_move rfl) ?_)
  refine L (D_v (R_shrC (z := 8) rfl rfl (by decide) (by decide)) ?_)
  refine L (D_v (R_convB Try.runUnderlying3 rfl) ?_)
  refine L (D_v (R_move rfl) ?_)
  refine L (D_v (R_convB Try.runUnderlying3 rfl) ?_)
  refine L (D_v (R_move rfl) ?_)
  refine L (D_v (R_convB Try.runUnderlying3 rfl) ?_)
  refine L (D_buildB (vs := [(0, u8 (by8 (((lv : Nat) : Int)))), (1, u8 (by8 ((((t : Nat) : Int) / 2 ^ 8)))), (2, u8 (by8 (((t : Nat) : Int)))), (3, u8 (by8 (((j : Nat) : Int))))]) (b := [(by8 (((lv : Nat) : Int))), (by8 ((((t : Nat) : Int) / 2 ^ 8))), (by8 (((t : Nat) : Int))), (by8 (((j : Nat) : Int)))]) Try.underlying31 Try.sizeOf5 Try.zeroValue5 rfl (fillB4 _ _ _ _) rfl rfl rfl (fun v2_12 w2_12 o2_12 e2_12 => ?_))
  have zv2_2_v2_12 := own_apart o2_2 o2_12
  have zv2_12_v2_2 := fun k hk hk2 => zv2_2_v2_12 k hk2 hk
  replace o2_12 := o2_12.lo hE.size
  replace hE := hE.trans e2_12
  replace hB1_0 := hB1_0.ext e2_12
  replace hB1_1 := hB1_1.ext e2_12
  replace o2_2 := o2_2.ext e2_12
  refine L (D_appendB elt5 Try.underlying31 rfl rfl o2_2 o2_12.bs (by (try simp only [List.length_take, List.length_drop, List.length_append, List.length_cons, List.length_nil, List.length_replicate, List.length_set, Nm.b_len, be2_len]); omega) hE.size (fun v2_13 w2_13 o2_13 g2_13 => ?_))
  replace hE := hE.grown g2_13 (fun k hk => own_ge o2_2 hk)
  replace hB1_0 := hB1_0.grown g2_13 (own_neB o2_2 hB1_0 rfl)
  replace hB1_1 := hB1_1.grown g2_13 (own_neB o2_2 hB1_1 rfl)
  replace o2_12 := o2_12.grown g2_13 (zv2_12_v2_2)
  refine L (D_call (R_callF Try.call88 rfl rfl) (c88 (48) v2_13 ((([] ++ (n).b) ++ [(by8 (((lv : Nat) : Int))), (by8 ((((t : Nat) : Int) / 2 ^ 8))), (by8 (((t : Nat) : Int))), (by8 (((j : Nat) : Int)))])) _ o2_13.bs (by (try simp only [List.length_take, List.length_drop, List.length_append, List.length_cons, List.length_nil, List.length_replicate, List.length_set, Nm.b_len, be2_len]); omega)) (fun w2_14 e2_14 => ?_))
  replace hE := hE.trans e2_14
  replace hB1_0 := hB1_0.ext e2_14
  replace hB1_1 := hB1_1.ext e2_14
  replace o2_12 := o2_12.ext e2_14
  replace o2_13 := o2_13.ext e2_14
  have xo2_12 := own_neB o2_12 hB1_1 rfl
  have xo2_13 := own_neB o2_13 hB1_1 rfl
  have h0 := hB1_1
  refine L (D_storeA Try.sizeOf24 hB1_1 rfl rfl rfl rfl rfl (l' := ((hashB (48 :: (([] ++ (n).b) ++ [(by8 (((lv : Nat) : Int))), (by8 ((((t : Nat) : Int) / 2 ^ 8))), (by8 (((t : Nat) : Int))), (by8 (((j : Nat) : Int)))])))).l) rfl (fun w2_15 k2_15 hB1_1 => ?_))
  replace hE := hE.kp k2_15 lB1_1
  replace hB1_0 := hB1_0.kp k2_15 nB1_0B1_1
  replace o2_12 := o2_12.kp k2_15 xo2_12
  replace o2_13 := o2_13.kp k2_15 xo2_13
  refine S_nil ?_
  refine T_tn ?_
  refine wp_ret ?_
  refine retc (c := ((hashB (48 :: (([] ++ (n).b) ++ [(by8 (((lv : Nat) : Int))), (by8 ((((t : Nat) : Int) / 2 ^ 8))), (by8 (((t : Nat) : Int))), (by8 (((j : Nat) : Int)))])))).l) rfl rfl Try.isAgg24 Try.sizeOf24 hB1_1 rfl rfl ⟨?_, hE⟩
  rfl
set_option maxRecDepth 4000 in
set_option maxHeartbeats 1000000 in
theorem c159 (n : Nm) (m aK lv t j : Nat) (w : World) (hTK : Blk w aK ((n).l ++ [i64 (2), .map (some m)]) 108) : Calls Try.prog 159 [.pointer (some ⟨aK, 0, none⟩), i64 ((lv : Nat) : Int), i64 ((t : Nat) : Int), i64 ((j : Nat) : Int)].toArray w (Ret w (keyN n lv t j).v) := by
  refine enter Try.func159 Try.ntmps159 rfl rfl ?_
  have hE := Ext.refl w
  refine wp_seq ?_
  refine W_region ?_
  refine L (D_alloc (c := (Nm.zero).l) Try.zeroValue24 rfl (fun aB1_0 w1_0 e1_0 gB1_0 hB1_0 => ?_))
  have lB1_0 := Nat.le_trans hE.size gB1_0
  have nKB1_0 := hTK.ne gB1_0
  replace hE := hE.trans e1_0
  replace hTK := hTK.ext e1_0
  refine S_nil ?_
  refine T_tn ?_
  refine wp_seq ?_
  refine W_region ?_
  refine L (D_v (R_move rfl) ?_)
  refine L (D_v (R_nilCheck rfl) ?_)
  refine L (D_v (R_fieldAddr Try.runUnderlying108 rfl Try.sizeOf24 rfl) ?_)
  refine L (D_v (R_sliceArr3 (len := 7) Try.underlying24 Try.sizeOf5 rfl rfl rfl) ?_)
  refine L (D_v (R_move rfl) ?_)
  refine L (D_v (R_convB Try.runUnderlying3 rfl) ?_)
  refine L (D_buildB (vs := [(0, u8 (by8 (((lv : Nat) : Int))))]) (b := [(by8 (((lv : Nat) : Int)))]) Try.underlying31 Try.sizeOf5 Try.zeroValue5 rfl (fillB1 _) rfl rfl rfl (fun v2_6 w2_6 o2_6 e2_6 => ?_))
  replace o2_6 := o2_6.lo hE.size
  replace hE := hE.trans e2_6
  replace hTK := hTK.ext e2_6
  replace hB1_0 := hB1_0.ext e2_6
  refine L (D_appendFullB (k := 8) elt5 Try.underlying31 rfl rfl (hTK.bs 0 (n).b rfl rfl rfl) rfl rfl o2_6.bs (Nat.le_of_ble_eq_true rfl) (by (try simp only [List.length_take, List.length_drop, List.length_append, List.length_cons, List.length_nil, List.length_replicate, List.length_set, Nm.b_len, be2_len]); omega) (fun v2_7 w2_7 o2_7 e2_7 => ?_))
  have zv2_6_v2_7 := own_apart o2_6 o2_7
  have zv2_7_v2_6 := fun k hk hk2 => zv2_6_v2_7 k hk2 hk
  replace o2_7 := o2_7.lo hE.size
  replace hE := hE.trans e2_7
  replace hTK := hTK.ext e2_7
  replace hB1_0 := hB1_0.ext e2_7
  replace o2_6 := o2_6.ext e2_7
  refine L (D_v (R_assign rfl) ?_)
  refine S_nil ?_
  refine T_tn ?_
  refine wp_seq ?_
  refine W_region ?_
  refine L (D_v (R_move rfl) ?_)
  refine L (D_v (R_move rfl) ?_)
  refine L (D_v (R_conv Try.runUnderlying3 Try.runUnderlying36 rfl) ?_)
  refine L (D_callE (R_callF Try.call86 rfl rfl) (c86_2 v2_7 (((n).b ++ [(by8 (((lv : Nat) : Int)))])) _ _ o2_7.bs (by (try simp only [List.length_take, List.length_drop, List.length_append, List.length_cons, List.length_nil, List.length_replicate, List.length_set, Nm.b_len, be2_len]); omega)) (fun v3_3 w3_3 e3_3 p3_3 => ?_))
  have o3_3 := p3_3
  have zv2_7_v3_3 := own_apart o2_7 o3_3
  have zv3_3_v2_7 := fun k hk hk2 => zv2_7_v3_3 k hk2 hk
  replace o3_3 := o3_3.lo hE.size
  replace hE := hE.trans e3_3
  replace hB1_0 := hB1_0.ext e3_3
  replace o2_7 := o2_7.ext e3_3
  refine L (D_v (R_assign rfl) ?_)
  refine S_nil ?_
  refine T_tn ?_
  refine wp_seq ?_
  refine W_region ?_
  refine L (D_v (R_move rfl) ?_)
  refine L (D_v (R_move rfl) ?_)
  refine L (D_v (R_convB Try.runUnderlying3 rfl) ?_)
  refine L (D_buildB (vs := [(0, u8 (by8 (((j : Nat) : Int))))]) (b := [(by8 (((j : Nat) : Int)))]) Try.underlying31 Try.sizeOf5 Try.zeroValue5 rfl (fillB1 _) rfl rfl rfl (fun v4_3 w4_3 o4_3 e4_3 => ?_))
  have zv3_3_v4_3 := own_apart o3_3 o4_3
  have zv4_3_v3_3 := fun k hk hk2 => zv3_3_v4_3 k hk2 hk
  replace o4_3 := o4_3.lo hE.size
  replace hE := hE.trans e4_3
  replace hB1_0 := hB1_0.ext e4_3
  replace o3_3 := o3_3.ext e4_3
  refine L (D_appendB elt5 Try.underlying31 rfl rfl o3_3 o4_3.bs (by (try simp only [List.length_take, List.length_drop, List.length_append, List.length_cons, List.length_nil, List.length_replicate, List.length_set, Nm.b_len, be2_len]); omega) hE.size (fun v4_4 w4_4 o4_4 g4_4 => ?_))
  replace hE := hE.grown g4_4 (fun k hk => own_ge o3_3 hk)
  replace hB1_0 := hB1_0.grown g4_4 (own_neB o3_3 hB1_0 rfl)
  replace o4_3 := o4_3.grown g4_4 (zv4_3_v3_3)
  refine L (D_call (R_callF Try.call37 rfl rfl) (c37 (48) v4_4 (((((n).b ++ [(by8 (((lv : Nat) : Int)))]) ++ be2 (IntKind.wrap .u64 ((t : Nat) : Int))) ++ [(by8 (((j : Nat) : Int)))])) _ o4_4.bs (by (try simp only [List.length_take, List.length_drop, List.length_append, List.length_cons, List.length_nil, List.length_replicate, List.length_set, Nm.b_len, be2_len]); omega)) (fun w4_5 e4_5 => ?_))
  replace hE := hE.trans e4_5
  replace hB1_0 := hB1_0.ext e4_5
  replace o4_3 := o4_3.ext e4_5
  replace o4_4 := o4_4.ext e4_5
  have xo4_3 := own_neB o4_3 hB1_0 rfl
  have xo4_4 := own_neB o4_4 hB1_0 rfl
  have h0 := hB1_0
  refine L (D_storeA Try.sizeOf24 hB1_0 rfl rfl rfl rfl rfl (l' := ((hashB (48 :: ((((n).b ++ [(by8 (((lv : Nat) : Int)))]) ++ be2 (IntKind.wrap .u64 ((t : Nat) : Int))) ++ [(by8 (((j : Nat) : Int)))])))).l) rfl (fun w4_6 k4_6 hB1_0 => ?_))
  replace hE := hE.kp k4_6 lB1_0
  replace o4_3 := o4_3.kp k4_6 xo4_3
  replace o4_4 := o4_4.kp k4_6 xo4_4
  refine S_nil ?_
  refine T_tn ?_
  refine wp_ret ?_
  refine retc (c := ((hashB (48 :: ((((n).b ++ [(by8 (((lv : Nat) : Int)))]) ++ be2 (IntKind.wrap .u64 ((t : Nat) : Int))) ++ [(by8 (((j : Nat) : Int)))])))).l) rfl rfl Try.isAgg24 Try.sizeOf24 hB1_0 rfl rfl ⟨?_, hE⟩
  rw [be2_wrap]; rfl
set_option maxRecDepth 4000 in
set_option maxHeartbeats 1000000 in
theorem c130s (F : Nat) (ih : ∀ (v : Value) (l : List Nm) (w : World), l.length ≤ F → 0 < l.length → l.length ≤ 1000000 → Ls cN w.heap.size w v l → Calls Try.prog 130 [v].toArray w (Ret w (mroot F l).v)) (v : Value) (l : List Nm) (w : World) (hn : l.length ≤ F + 1) (h0 : 0 < l.length) (hb : l.length ≤ 1000000) (h : Ls cN w.heap.size w v l) : Calls Try.prog 130 [v].toArray w (Ret w (mroot (F + 1) l).v) := by
  refine enter Try.func130 Try.ntmps130 rfl rfl ?_
  have hE := Ext.refl w
  refine wp_seq ?_
  refine W_region ?_
  refine L (D_alloc (c := (Nm.zero).l) Try.zeroValue24 rfl (fun aB1_0 w1_0 e1_0 gB1_0 hB1_0 => ?_))
  have lB1_0 := Nat.le_trans hE.size gB1_0
  replace hE := hE.trans e1_0
  refine S_nil ?_
  refine T_tn ?_
  refine wp_seq ?_
  refine wp_seq ?_
  refine W_region ?_
  refine L (D_v (R_move rfl) ?_)
  refine L (D_v (R_len Try.underlying45 rfl (h.ext hE).1) ?_)
  refine S_nil ?_
  refine T_tn ?_
  refine wp_block ?_
  refine wp_seq ?_
  refine W_region ?_
  refine L (D_v (R_eqlI rfl rfl) ?_)
  refine L (D_v (R_assign rfl) ?_)
  refine S_nil ?_
  refine T_tn ?_
  refine W_if rfl (fun c1 => ?_) (fun c1 => ?_)
  ·
    exfalso; have h9 := eq_of_beq c1; omega
  ·
    refine wp_seq ?_
    refine W_region ?_
    refine L (D_v (R_eqlI rfl rfl) ?_)
    refine L (D_v (R_assign rfl) ?_)
    refine S_nil ?_
    refine T_tn ?_
    refine W_if rfl (fun c2 => ?_) (fun c2 => ?_)
    ·
      have h1 : l.length = 1 := by have h9 := eq_of_beq c2; omega
      refine wp_seq ?_
      refine W_region ?_
      refine L (D_v (R_move rfl) ?_)
      refine L (D_v (R_elAddr (i := 0) Try.underlying45 Try.sizeOf24 rfl rfl (h.ext hE).1 (by (try simp only [List.length_take, List.length_drop, List.length_append, List.length_cons, List.length_nil, List.length_replicate, List.length_set, Nm.b_len, be2_len]); omega)) ?_)
      refine L (D_v (R_ldL (C := cN) (i := 0) (y := ((l).getD (0) Nm.zero)) Try.isAgg24 Try.sizeOf24 rfl (h.ext hE) (getD_some (d := Nm.zero) (by (try simp only [List.length_take, List.length_drop, List.length_append, List.length_cons, List.length_nil, List.length_replicate, List.length_set, Nm.b_len, be2_len]); omega))) ?_)
      refine L (D_call (R_callF Try.call160 rfl rfl) (c160 (((l).getD (0) Nm.zero)) _) (fun w5_3 e5_3 => ?_))
      replace hE := hE.trans e5_3
      replace hB1_0 := hB1_0.ext e5_3
      have h0 := hB1_0
      refine L (D_storeA Try.sizeOf24 hB1_0 rfl rfl rfl rfl rfl (l' := ((leafH ((l).getD (0) Nm.zero))).l) rfl (fun w5_4 k5_4 hB1_0 => ?_))
      replace hE := hE.kp k5_4 lB1_0
      refine S_nil ?_
      refine T_tn ?_
      refine wp_ret ?_
      refine T_br ?_
      refine T_tr ?_
      refine retc (c := ((leafH ((l).getD (0) Nm.zero))).l) rfl rfl Try.isAgg24 Try.sizeOf24 hB1_0 rfl rfl ⟨?_, hE⟩
      rw [mroot_one h1]; rfl
    ·
      have h1 : l.length ≠ 1 := by have h9 := ne_of_beq_false c2; omega
      have hsb := split_bound (n := l.length) (by omega)
      refine wp_skip ?_
      refine T_bn ?_
      refine T_tn ?_
      refine wp_seq ?_
      refine W_region ?_
      refine L (D_v (R_move rfl) ?_)
      refine L (D_v (R_len Try.underlying45 rfl (h.ext hE).1) ?_)
      refine L (D_call (R_callF Try.call161 rfl rfl) (c161 ((l).length) _ (by omega) (by omega)) (fun w5_2 e5_2 => ?_))
      replace hE := hE.trans e5_2
      replace hB1_0 := hB1_0.ext e5_2
      refine L (D_v (R_assign rfl) ?_)
      refine S_nil ?_
      refine T_tn ?_
      refine wp_seq ?_
      refine W_held (fun W => Ext w W ∧ True) mixed (fun w6_99 e6_99 => ?_)
      replace hE := hE.trans e6_99
      replace hB1_0 := hB1_0.ext e6_99
      refine H_take (i := 0) rfl (by kernel_rfl) (by kernel_rfl) (by kernel_rfl) rfl (pq_then pq_body) ⟨hE, trivial⟩ rfl (fun w hw => R_move rfl) ?_
      refine H_take (i := 1) rfl (by kernel_rfl) (by kernel_rfl) (by kernel_rfl) rfl (pq_then pq_body) ⟨hE, trivial⟩ rfl (fun w hw => R_move rfl) ?_
      refine H_take (i := 2) rfl (by kernel_rfl) (by kernel_rfl) (by kernel_rfl) rfl (pq_then pq_body) ⟨hE, trivial⟩ rfl (fun w hw => R_sliceHi (j := (split ((l).length))) Try.underlying45 Try.sizeOf24 rfl rfl (h.ext hw.1).1 (by (try simp only [List.length_take, List.length_drop, List.length_append, List.length_cons, List.length_nil, List.length_replicate, List.length_set, Nm.b_len, be2_len]); omega)) ?_
      refine H_take (i := 4) rfl (by kernel_rfl) (by kernel_rfl) (by kernel_rfl) rfl (pq_then pq_body) ⟨hE, trivial⟩ rfl (fun w hw => R_move rfl) ?_
      refine H_take (i := 5) rfl (by kernel_rfl) (by kernel_rfl) (by kernel_rfl) rfl (pq_then pq_body) ⟨hE, trivial⟩ rfl (fun w hw => R_move rfl) ?_
      refine H_take (i := 6) rfl (by kernel_rfl) (by kernel_rfl) (by kernel_rfl) rfl (pq_then pq_body) ⟨hE, trivial⟩ rfl (fun w hw => R_sliceLo (i := (split ((l).length))) Try.underlying45 Try.sizeOf24 rfl rfl (h.ext hw.1).1 (by (try simp only [List.length_take, List.length_drop, List.length_append, List.length_cons, List.length_nil, List.length_replicate, List.length_set, Nm.b_len, be2_len]); omega)) ?_
      refine H_op (i := 3) (by kernel_rfl) rfl rfl (D_call (R_callF Try.call130 rfl rfl) (ih (cutV v (Cd.sz cN) (0) ((split ((l).length)))) ((((l).drop (0)).take ((split ((l).length)) - 0))) _ (by (try simp only [List.length_take, List.length_drop, List.length_append, List.length_cons, List.length_nil, List.length_replicate, List.length_set, Nm.b_len, be2_len]); omega) (by (try simp only [List.length_take, List.length_drop, List.length_append, List.length_cons, List.length_nil, List.length_replicate, List.length_set, Nm.b_len, be2_len]); omega) (by (try simp only [List.length_take, List.length_drop, List.length_append, List.length_cons, List.length_nil, List.length_replicate, List.length_set, Nm.b_len, be2_len]); omega) (((h.ext hE).cut (by (try simp only [List.length_take, List.length_drop, List.length_append, List.length_cons, List.length_nil, List.length_replicate, List.length_set, Nm.b_len, be2_len]); omega) (by (try simp only [List.length_take, List.length_drop, List.length_append, List.length_cons, List.length_nil, List.length_replicate, List.length_set, Nm.b_len, be2_len]); omega)).lev fun _ _ _ => trivial)) (fun w6_3 e6_3 => ?_))
      replace hE := hE.trans e6_3
      replace hB1_0 := hB1_0.ext e6_3
      refine ⟨⟨hE, trivial⟩, ?_⟩
      refine H_op (i := 7) (by kernel_rfl) rfl rfl (D_call (R_callF Try.call130 rfl rfl) (ih (cutV v (Cd.sz cN) ((split ((l).length))) ((l).length)) ((((l).drop ((split ((l).length)))).take ((l).length - (split ((l).length))))) _ (by (try simp only [List.length_take, List.length_drop, List.length_append, List.length_cons, List.length_nil, List.length_replicate, List.length_set, Nm.b_len, be2_len]); omega) (by (try simp only [List.length_take, List.length_drop, List.length_append, List.length_cons, List.length_nil, List.length_replicate, List.length_set, Nm.b_len, be2_len]); omega) (by (try simp only [List.length_take, List.length_drop, List.length_append, List.length_cons, List.length_nil, List.length_replicate, List.length_set, Nm.b_len, be2_len]); omega) (((h.ext hE).cut (by (try simp only [List.length_take, List.length_drop, List.length_append, List.length_cons, List.length_nil, List.length_replicate, List.length_set, Nm.b_len, be2_len]); omega) (by (try simp only [List.length_take, List.length_drop, List.length_append, List.length_cons, List.length_nil, List.length_replicate, List.length_set, Nm.b_len, be2_len]); omega)).lev fun _ _ _ => trivial)) (fun w6_7 e6_7 => ?_))
      replace hE := hE.trans e6_7
      replace hB1_0 := hB1_0.ext e6_7
      refine ⟨⟨hE, trivial⟩, ?_⟩
      refine H_op (i := 8) (by kernel_rfl) rfl rfl (D_call (R_callF Try.call162 rfl rfl) (c162 (18) ((mroot F ((((l).drop (0)).take ((split ((l).length)) - 0))))) ((mroot F ((((l).drop ((split ((l).length)))).take ((l).length - (split ((l).length))))))) _) (fun w6_8 e6_8 => ?_))
      replace hE := hE.trans e6_8
      replace hB1_0 := hB1_0.ext e6_8
      refine ⟨⟨hE, trivial⟩, ?_⟩
      have h0 := hB1_0
      refine H_op (i := 9) (by kernel_rfl) rfl rfl (D_storeA Try.sizeOf24 hB1_0 rfl rfl rfl rfl rfl (l' := ((pairH 18 (mroot F ((((l).drop (0)).take ((split ((l).length)) - 0)))) (mroot F ((((l).drop ((split ((l).length)))).take ((l).length - (split ((l).length)))))))).l) rfl (fun w6_9 k6_9 hB1_0 => ?_))
      replace hE := hE.kp k6_9 lB1_0
      refine ⟨⟨hE, trivial⟩, ?_⟩
      refine H_done (by kernel_rfl) ?_
      refine T_tn ?_
      refine wp_ret ?_
      refine retc (c := ((pairH 18 (mroot F ((((l).drop (0)).take ((split ((l).length)) - 0)))) (mroot F ((((l).drop ((split ((l).length)))).take ((l).length - (split ((l).length)))))))).l) rfl rfl Try.isAgg24 Try.sizeOf24 hB1_0 rfl rfl ⟨?_, hE⟩
      rw [mroot_two (by omega) h1, cutn_lo, cutn_hi]; rfl
theorem c130 (F : Nat) : ∀ (v : Value) (l : List Nm) (w : World), l.length ≤ F → 0 < l.length → l.length ≤ 1000000 → Ls cN w.heap.size w v l → Calls Try.prog 130 [v].toArray w (Ret w (mroot F l).v) := by
  induction F with
  | zero => intro v l w h1 h2; omega
  | succ F ih => exact fun v l w h1 h2 h3 h4 => c130s F ih v l w h1 h2 h3 h4
set_option maxRecDepth 4000 in
set_option maxHeartbeats 1000000 in
theorem c140s (F : Nat) (ih : ∀ (v : Value) (l : List Nm) (w : World), l.length ≤ F → 0 < l.length → l.length ≤ 1000000 → Ls cN w.heap.size w v l → Calls Try.prog 140 [v].toArray w (Ret w (mroot F l).v)) (v : Value) (l : List Nm) (w : World) (hn : l.length ≤ F + 1) (h0 : 0 < l.length) (hb : l.length ≤ 1000000) (h : Ls cN w.heap.size w v l) : Calls Try.prog 140 [v].toArray w (Ret w (mroot (F + 1) l).v) := by
  refine enter Try.func140 Try.ntmps140 rfl rfl ?_
  have hE := Ext.refl w
  refine wp_seq ?_
  refine W_region ?_
  refine L (D_alloc (c := (Nm.zero).l) Try.zeroValue24 rfl (fun aB1_0 w1_0 e1_0 gB1_0 hB1_0 => ?_))
  have lB1_0 := Nat.le_trans hE.size gB1_0
  replace hE := hE.trans e1_0
  refine S_nil ?_
  refine T_tn ?_
  refine wp_seq ?_
  refine wp_seq ?_
  refine W_region ?_
  refine L (D_v (R_move rfl) ?_)
  refine L (D_v (R_len Try.underlying45 rfl (h.ext hE).1) ?_)
  refine S_nil ?_
  refine T_tn ?_
  refine wp_block ?_
  refine wp_seq ?_
  refine W_region ?_
  refine L (D_v (R_eqlI rfl rfl) ?_)
  refine L (D_v (R_assign rfl) ?_)
  refine S_nil ?_
  refine T_tn ?_
  refine W_if rfl (fun c1 => ?_) (fun c1 => ?_)
  ·
    exfalso; have h9 := eq_of_beq c1; omega
  ·
    refine wp_seq ?_
    refine W_region ?_
    refine L (D_v (R_eqlI rfl rfl) ?_)
    refine L (D_v (R_assign rfl) ?_)
    refine S_nil ?_
    refine T_tn ?_
    refine W_if rfl (fun c2 => ?_) (fun c2 => ?_)
    ·
      have h1 : l.length = 1 := by have h9 := eq_of_beq c2; omega
      refine wp_seq ?_
      refine W_region ?_
      refine L (D_v (R_move rfl) ?_)
      refine L (D_v (R_elAddr (i := 0) Try.underlying45 Try.sizeOf24 rfl rfl (h.ext hE).1 (by (try simp only [List.length_take, List.length_drop, List.length_append, List.length_cons, List.length_nil, List.length_replicate, List.length_set, Nm.b_len, be2_len]); omega)) ?_)
      refine L (D_v (R_sliceEl (len := 7) (k := 0 * 8) Try.underlying24 Try.sizeOf5 (h.ext hE).1 (lel_lt (C := cN) (k := 0) (getD_some (d := Nm.zero) (by (try simp only [List.length_take, List.length_drop, List.length_append, List.length_cons, List.length_nil, List.length_replicate, List.length_set, Nm.b_len, be2_len]); omega)) (by decide)) rfl) ?_)
      refine L (D_call (R_callF Try.call88 rfl rfl) (c88 (17) (elS v (0 * 8) 8) ((((l).getD (0) Nm.zero)).b) _ ((h.ext hE).bs (getD_some (d := Nm.zero) (by (try simp only [List.length_take, List.length_drop, List.length_append, List.length_cons, List.length_nil, List.length_replicate, List.length_set, Nm.b_len, be2_len]); omega))) (by (try simp only [List.length_take, List.length_drop, List.length_append, List.length_cons, List.length_nil, List.length_replicate, List.length_set, Nm.b_len, be2_len]); omega)) (fun w5_3 e5_3 => ?_))
      replace hE := hE.trans e5_3
      replace hB1_0 := hB1_0.ext e5_3
      have h0 := hB1_0
      refine L (D_storeA Try.sizeOf24 hB1_0 rfl rfl rfl rfl rfl (l' := ((hashB (17 :: (((l).getD (0) Nm.zero)).b))).l) rfl (fun w5_4 k5_4 hB1_0 => ?_))
      replace hE := hE.kp k5_4 lB1_0
      refine S_nil ?_
      refine T_tn ?_
      refine wp_ret ?_
      refine T_br ?_
      refine T_tr ?_
      refine retc (c := ((hashB (17 :: (((l).getD (0) Nm.zero)).b))).l) rfl rfl Try.isAgg24 Try.sizeOf24 hB1_0 rfl rfl ⟨?_, hE⟩
      rw [mroot_one h1]; rfl
    ·
      have h1 : l.length ≠ 1 := by have h9 := ne_of_beq_false c2; omega
      have hsb := split_bound (n := l.length) (by omega)
      refine wp_skip ?_
      refine T_bn ?_
      refine T_tn ?_
      refine wp_seq ?_
      refine W_region ?_
      refine L (D_v (R_move rfl) ?_)
      refine L (D_v (R_len Try.underlying45 rfl (h.ext hE).1) ?_)
      refine L (D_call (R_callF Try.call141 rfl rfl) (c141 ((l).length) _ (by omega) (by omega)) (fun w5_2 e5_2 => ?_))
      replace hE := hE.trans e5_2
      replace hB1_0 := hB1_0.ext e5_2
      refine L (D_v (R_assign rfl) ?_)
      refine S_nil ?_
      refine T_tn ?_
      refine wp_seq ?_
      refine W_held (fun W => Ext w W ∧ True) mixed (fun w6_99 e6_99 => ?_)
      replace hE := hE.trans e6_99
      replace hB1_0 := hB1_0.ext e6_99
      refine H_take (i := 0) rfl (by kernel_rfl) (by kernel_rfl) (by kernel_rfl) rfl (pq_then pq_body) ⟨hE, trivial⟩ rfl (fun w hw => R_move rfl) ?_
      refine H_take (i := 1) rfl (by kernel_rfl) (by kernel_rfl) (by kernel_rfl) rfl (pq_then pq_body) ⟨hE, trivial⟩ rfl (fun w hw => R_move rfl) ?_
      refine H_take (i := 2) rfl (by kernel_rfl) (by kernel_rfl) (by kernel_rfl) rfl (pq_then pq_body) ⟨hE, trivial⟩ rfl (fun w hw => R_sliceHi (j := (split ((l).length))) Try.underlying45 Try.sizeOf24 rfl rfl (h.ext hw.1).1 (by (try simp only [List.length_take, List.length_drop, List.length_append, List.length_cons, List.length_nil, List.length_replicate, List.length_set, Nm.b_len, be2_len]); omega)) ?_
      refine H_take (i := 4) rfl (by kernel_rfl) (by kernel_rfl) (by kernel_rfl) rfl (pq_then pq_body) ⟨hE, trivial⟩ rfl (fun w hw => R_move rfl) ?_
      refine H_take (i := 5) rfl (by kernel_rfl) (by kernel_rfl) (by kernel_rfl) rfl (pq_then pq_body) ⟨hE, trivial⟩ rfl (fun w hw => R_move rfl) ?_
      refine H_take (i := 6) rfl (by kernel_rfl) (by kernel_rfl) (by kernel_rfl) rfl (pq_then pq_body) ⟨hE, trivial⟩ rfl (fun w hw => R_sliceLo (i := (split ((l).length))) Try.underlying45 Try.sizeOf24 rfl rfl (h.ext hw.1).1 (by (try simp only [List.length_take, List.length_drop, List.length_append, List.length_cons, List.length_nil, List.length_replicate, List.length_set, Nm.b_len, be2_len]); omega)) ?_
      refine H_op (i := 3) (by kernel_rfl) rfl rfl (D_call (R_callF Try.call140 rfl rfl) (ih (cutV v (Cd.sz cN) (0) ((split ((l).length)))) ((((l).drop (0)).take ((split ((l).length)) - 0))) _ (by (try simp only [List.length_take, List.length_drop, List.length_append, List.length_cons, List.length_nil, List.length_replicate, List.length_set, Nm.b_len, be2_len]); omega) (by (try simp only [List.length_take, List.length_drop, List.length_append, List.length_cons, List.length_nil, List.length_replicate, List.length_set, Nm.b_len, be2_len]); omega) (by (try simp only [List.length_take, List.length_drop, List.length_append, List.length_cons, List.length_nil, List.length_replicate, List.length_set, Nm.b_len, be2_len]); omega) (((h.ext hE).cut (by (try simp only [List.length_take, List.length_drop, List.length_append, List.length_cons, List.length_nil, List.length_replicate, List.length_set, Nm.b_len, be2_len]); omega) (by (try simp only [List.length_take, List.length_drop, List.length_append, List.length_cons, List.length_nil, List.length_replicate, List.length_set, Nm.b_len, be2_len]); omega)).lev fun _ _ _ => trivial)) (fun w6_3 e6_3 => ?_))
      replace hE := hE.trans e6_3
      replace hB1_0 := hB1_0.ext e6_3
      refine ⟨⟨hE, trivial⟩, ?_⟩
      refine H_op (i := 7) (by kernel_rfl) rfl rfl (D_call (R_callF Try.call140 rfl rfl) (ih (cutV v (Cd.sz cN) ((split ((l).length))) ((l).length)) ((((l).drop ((split ((l).length)))).take ((l).length - (split ((l).length))))) _ (by (try simp only [List.length_take, List.length_drop, List.length_append, List.length_cons, List.length_nil, List.length_replicate, List.length_set, Nm.b_len, be2_len]); omega) (by (try simp only [List.length_take, List.length_drop, List.length_append, List.length_cons, List.length_nil, List.length_replicate, List.length_set, Nm.b_len, be2_len]); omega) (by (try simp only [List.length_take, List.length_drop, List.length_append, List.length_cons, List.length_nil, List.length_replicate, List.length_set, Nm.b_len, be2_len]); omega) (((h.ext hE).cut (by (try simp only [List.length_take, List.length_drop, List.length_append, List.length_cons, List.length_nil, List.length_replicate, List.length_set, Nm.b_len, be2_len]); omega) (by (try simp only [List.length_take, List.length_drop, List.length_append, List.length_cons, List.length_nil, List.length_replicate, List.length_set, Nm.b_len, be2_len]); omega)).lev fun _ _ _ => trivial)) (fun w6_7 e6_7 => ?_))
      replace hE := hE.trans e6_7
      replace hB1_0 := hB1_0.ext e6_7
      refine ⟨⟨hE, trivial⟩, ?_⟩
      refine H_op (i := 8) (by kernel_rfl) rfl rfl (D_call (R_callF Try.call173 rfl rfl) (c173 (18) ((mroot F ((((l).drop (0)).take ((split ((l).length)) - 0))))) ((mroot F ((((l).drop ((split ((l).length)))).take ((l).length - (split ((l).length))))))) _) (fun w6_8 e6_8 => ?_))
      replace hE := hE.trans e6_8
      replace hB1_0 := hB1_0.ext e6_8
      refine ⟨⟨hE, trivial⟩, ?_⟩
      have h0 := hB1_0
      refine H_op (i := 9) (by kernel_rfl) rfl rfl (D_storeA Try.sizeOf24 hB1_0 rfl rfl rfl rfl rfl (l' := ((pairH 18 (mroot F ((((l).drop (0)).take ((split ((l).length)) - 0)))) (mroot F ((((l).drop ((split ((l).length)))).take ((l).length - (split ((l).length)))))))).l) rfl (fun w6_9 k6_9 hB1_0 => ?_))
      replace hE := hE.kp k6_9 lB1_0
      refine ⟨⟨hE, trivial⟩, ?_⟩
      refine H_done (by kernel_rfl) ?_
      refine T_tn ?_
      refine wp_ret ?_
      refine retc (c := ((pairH 18 (mroot F ((((l).drop (0)).take ((split ((l).length)) - 0)))) (mroot F ((((l).drop ((split ((l).length)))).take ((l).length - (split ((l).length)))))))).l) rfl rfl Try.isAgg24 Try.sizeOf24 hB1_0 rfl rfl ⟨?_, hE⟩
      rw [mroot_two (by omega) h1, cutn_lo, cutn_hi]; rfl
theorem c140 (F : Nat) : ∀ (v : Value) (l : List Nm) (w : World), l.length ≤ F → 0 < l.length → l.length ≤ 1000000 → Ls cN w.heap.size w v l → Calls Try.prog 140 [v].toArray w (Ret w (mroot F l).v) := by
  induction F with
  | zero => intro v l w h1 h2; omega
  | succ F ih => exact fun v l w h1 h2 h3 h4 => c140s F ih v l w h1 h2 h3 h4
set_option maxRecDepth 4000 in
set_option maxHeartbeats 1000000 in
theorem c177s (F : Nat) (ih : ∀ (v : Value) (l : List Nm) (i : Nat) (w : World), l.length ≤ F → i < l.length → l.length ≤ 1000000 → Ls cN w.heap.size w v l → Calls Try.prog 177 [v, i64 ((i : Nat) : Int)].toArray w (RetE w fun r w' => Ow cN w.heap.size w.heap.size w' r (mpath F l i))) (v : Value) (l : List Nm) (i : Nat) (w : World) (hn : l.length ≤ F + 1) (hi : i < l.length) (hb : l.length ≤ 1000000) (h : Ls cN w.heap.size w v l) : Calls Try.prog 177 [v, i64 ((i : Nat) : Int)].toArray w (RetE w fun r w' => Ow cN w.heap.size w.heap.size w' r (mpath (F + 1) l i)) := by
  refine enter Try.func177 Try.ntmps177 rfl rfl ?_
  have hE := Ext.refl w
  refine wp_seq ?_
  refine W_region ?_
  refine L (D_v (R_assign rfl) ?_)
  refine S_nil ?_
  refine T_tn ?_
  refine wp_seq ?_
  refine wp_seq ?_
  refine W_region ?_
  refine L (D_v (R_move rfl) ?_)
  refine L (D_v (R_len Try.underlying45 rfl (h.ext hE).1) ?_)
  refine L (D_v (R_eqlI rfl rfl) ?_)
  refine S_nil ?_
  refine T_tn ?_
  refine W_if rfl (fun c1 => ?_) (fun c1 => ?_)
  ·
    have h1 : l.length = 1 := by have h9 := eq_of_beq c1; omega
    refine wp_seq ?_
    refine W_region ?_
    refine L (D_v (R_assign rfl) ?_)
    refine S_nil ?_
    refine T_tn ?_
    refine wp_ret ?_
    refine T_tr ?_
    refine ret1 (v := (Value.slice none 0 0)) rfl rfl ⟨_, rfl, hE, ?_⟩
    rw [mpath_one h1]; exact Ow.nil _ _ _ _
  ·
    have h1 : l.length ≠ 1 := by have h9 := ne_of_beq_false c1; omega
    have hsb := split_bound (n := l.length) (by omega)
    refine wp_skip ?_
    refine T_tn ?_
    refine wp_seq ?_
    refine W_region ?_
    refine L (D_v (R_assign rfl) ?_)
    refine S_nil ?_
    refine T_tn ?_
    refine wp_seq ?_
    refine W_region ?_
    refine L (D_alloc (c := (Nm.zero).l) Try.zeroValue24 rfl (fun aB4_0 w4_0 e4_0 gB4_0 hB4_0 => ?_))
    have lB4_0 := Nat.le_trans hE.size gB4_0
    replace hE := hE.trans e4_0
    refine S_nil ?_
    refine T_tn ?_
    refine wp_seq ?_
    refine wp_seq ?_
    refine W_region ?_
    refine L (D_v (R_move rfl) ?_)
    refine L (D_v (R_len Try.underlying45 rfl (h.ext hE).1) ?_)
    refine L (D_call (R_callF Try.call161 rfl rfl) (c161 ((l).length) _ (by omega) (by omega)) (fun w5_2 e5_2 => ?_))
    replace hE := hE.trans e5_2
    replace hB4_0 := hB4_0.ext e5_2
    refine L (D_v (R_assign rfl) ?_)
    refine S_nil ?_
    refine T_tn ?_
    refine wp_seq ?_
    refine W_region ?_
    refine L (D_v (R_move rfl) ?_)
    refine L (D_v (R_move rfl) ?_)
    refine L (D_v (R_lssI rfl rfl) ?_)
    refine S_nil ?_
    refine T_tn ?_
    refine W_if rfl (fun c2 => ?_) (fun c2 => ?_)
    ·
      have lk : i < split l.length := by have h9 := of_decide_eq_true c2; omega
      have hpl : (mpath F (((l).drop (0)).take (split l.length - 0)) (i)).length ≤ 1000000 := Nat.le_trans (mpath_ln (by (try simp only [List.length_take, List.length_drop]); omega) (by (try simp only [List.length_take, List.length_drop]); omega)) (by (try simp only [List.length_take, List.length_drop]); omega)
      refine W_held (fun W => Ext w W ∧ True) mixed (fun w7_99 e7_99 => ?_)
      replace hE := hE.trans e7_99
      replace hB4_0 := hB4_0.ext e7_99
      refine H_take (i := 0) rfl (by kernel_rfl) (by kernel_rfl) (by kernel_rfl) rfl (pq_then pq_body) ⟨hE, trivial⟩ rfl (fun w hw => R_move rfl) ?_
      refine H_take (i := 1) rfl (by kernel_rfl) (by kernel_rfl) (by kernel_rfl) rfl (pq_then pq_body) ⟨hE, trivial⟩ rfl (fun w hw => R_move rfl) ?_
      refine H_take (i := 2) rfl (by kernel_rfl) (by kernel_rfl) (by kernel_rfl) rfl (pq_then pq_body) ⟨hE, trivial⟩ rfl (fun w hw => R_move rfl) ?_
      refine H_take (i := 3) rfl (by kernel_rfl) (by kernel_rfl) (by kernel_rfl) rfl (pq_then pq_body) ⟨hE, trivial⟩ rfl (fun w hw => R_slice3 (j := (split ((l).length))) Try.underlying45 Try.sizeOf24 rfl rfl rfl (h.ext hw.1).1 (by (try simp only [List.length_take, List.length_drop, List.length_append, List.length_cons, List.length_nil, List.length_replicate, List.length_set, Nm.b_len, be2_len]); omega)) ?_
      refine H_take (i := 4) rfl (by kernel_rfl) (by kernel_rfl) (by kernel_rfl) rfl (pq_then pq_body) ⟨hE, trivial⟩ rfl (fun w hw => R_move rfl) ?_
      refine H_take (i := 6) rfl (by kernel_rfl) (by kernel_rfl) (by kernel_rfl) rfl (pq_then pq_body) ⟨hE, trivial⟩ rfl (fun w hw => R_move rfl) ?_
      refine H_take (i := 7) rfl (by kernel_rfl) (by kernel_rfl) (by kernel_rfl) rfl (pq_then pq_body) ⟨hE, trivial⟩ rfl (fun w hw => R_move rfl) ?_
      refine H_take (i := 8) rfl (by kernel_rfl) (by kernel_rfl) (by kernel_rfl) rfl (pq_then pq_body) ⟨hE, trivial⟩ rfl (fun w hw => R_sliceLo (i := (split ((l).length))) Try.underlying45 Try.sizeOf24 rfl rfl (h.ext hw.1).1 (by (try simp only [List.length_take, List.length_drop, List.length_append, List.length_cons, List.length_nil, List.length_replicate, List.length_set, Nm.b_len, be2_len]); omega)) ?_
      refine H_op (i := 5) (by kernel_rfl) rfl rfl (D_callE (R_callF Try.call177 rfl rfl) (ih (cutF v ((split ((l).length)))) ((((l).drop (0)).take ((split ((l).length)) - 0))) (i) _ (by (try simp only [List.length_take, List.length_drop, List.length_append, List.length_cons, List.length_nil, List.length_replicate, List.length_set, Nm.b_len, be2_len]); omega) (by (try simp only [List.length_take, List.length_drop, List.length_append, List.length_cons, List.length_nil, List.length_replicate, List.length_set, Nm.b_len, be2_len]); omega) (by (try simp only [List.length_take, List.length_drop, List.length_append, List.length_cons, List.length_nil, List.length_replicate, List.length_set, Nm.b_len, be2_len]); omega) (((h.ext hE).cutF (by (try simp only [List.length_take, List.length_drop, List.length_append, List.length_cons, List.length_nil, List.length_replicate, List.length_set, Nm.b_len, be2_len]); omega)).lev fun _ _ _ => trivial)) (fun v7_5 w7_5 e7_5 p7_5 => ?_))
      have o7_5 := p7_5
      have yv7_5_B4_0 : Value.ownBlock v7_5 ≠ some aB4_0 := fun hk => absurd (own_ge o7_5.1 hk) (Nat.not_le.2 hB4_0.lt)
      replace o7_5 := o7_5.low hE.size
      replace o7_5 := Ow.lev (lo' := w.heap.size) o7_5 (fun _ _ _ => trivial)
      replace hE := hE.trans e7_5
      replace hB4_0 := hB4_0.ext e7_5
      refine ⟨⟨hE, trivial⟩, ?_⟩
      refine H_op (i := 9) (by kernel_rfl) rfl rfl (D_call (R_callF Try.call130 rfl rfl) (c130 F (cutV v (Cd.sz cN) ((split ((l).length))) ((l).length)) ((((l).drop ((split ((l).length)))).take ((l).length - (split ((l).length))))) _ (by (try simp only [List.length_take, List.length_drop, List.length_append, List.length_cons, List.length_nil, List.length_replicate, List.length_set, Nm.b_len, be2_len]); omega) (by (try simp only [List.length_take, List.length_drop, List.length_append, List.length_cons, List.length_nil, List.length_replicate, List.length_set, Nm.b_len, be2_len]); omega) (by (try simp only [List.length_take, List.length_drop, List.length_append, List.length_cons, List.length_nil, List.length_replicate, List.length_set, Nm.b_len, be2_len]); omega) (((h.ext hE).cut (by (try simp only [List.length_take, List.length_drop, List.length_append, List.length_cons, List.length_nil, List.length_replicate, List.length_set, Nm.b_len, be2_len]); omega) (by (try simp only [List.length_take, List.length_drop, List.length_append, List.length_cons, List.length_nil, List.length_replicate, List.length_set, Nm.b_len, be2_len]); omega)).lev fun _ _ _ => trivial)) (fun w7_9 e7_9 => ?_))
      replace hE := hE.trans e7_9
      replace hB4_0 := hB4_0.ext e7_9
      replace o7_5 := o7_5.ext e7_9
      refine ⟨⟨hE, trivial⟩, ?_⟩
      refine H_take (i := 10) rfl (by kernel_rfl) (by kernel_rfl) (by kernel_rfl) rfl (pq_then pq_body) ⟨hE, trivial⟩ rfl (fun w hw => R_assign rfl) ?_
      have xo7_5 := yv7_5_B4_0
      have h0 := hB4_0
      refine H_op (i := 11) (by kernel_rfl) rfl rfl (D_storeA Try.sizeOf24 hB4_0 rfl rfl rfl rfl rfl (l' := ((mroot F ((((l).drop ((split ((l).length)))).take ((l).length - (split ((l).length))))))).l) rfl (fun w7_11 k7_11 hB4_0 => ?_))
      have f7_11 := Fb.kp k7_11 (Nat.le_trans (Nat.le_refl _) lB4_0) (Blk.notB h0 rfl)
      replace hE := hE.kp k7_11 lB4_0
      replace o7_5 := o7_5.kp k7_11 xo7_5 f7_11
      refine ⟨⟨hE, trivial⟩, ?_⟩
      refine H_done (by kernel_rfl) ?_
      refine T_tn ?_
      refine wp_seq ?_
      refine W_held (fun W => Ext w W ∧ Blk W aB4_0 ((mroot F ((((l).drop ((split ((l).length)))).take ((l).length - (split ((l).length))))))).l 24 ∧ Ow cN w.heap.size w.heap.size W v7_5 (mpath F ((((l).drop (0)).take ((split ((l).length)) - 0))) (i)) ∧ True) mixed (fun w8_99 e8_99 => ?_)
      replace hE := hE.trans e8_99
      replace hB4_0 := hB4_0.ext e8_99
      replace o7_5 := o7_5.ext e8_99
      refine H_take (i := 0) rfl (by kernel_rfl) (by kernel_rfl) (by kernel_rfl) rfl (pq_then pq_body) ⟨hE, hB4_0, o7_5, trivial⟩ rfl (fun w hw => R_move rfl) ?_
      refine H_take (i := 1) rfl (by kernel_rfl) (by kernel_rfl) (by kernel_rfl) rfl (pq_then pq_body) ⟨hE, hB4_0, o7_5, trivial⟩ rfl (fun w hw => R_move rfl) ?_
      refine H_take (i := 2) rfl (by kernel_rfl) (by kernel_rfl) (by kernel_rfl) rfl (pq_then pq_body) ⟨hE, hB4_0, o7_5, trivial⟩ rfl (fun w hw => R_len Try.underlying45 rfl hw.2.2.1.ls.1) ?_
      refine H_take (i := 3) rfl (by kernel_rfl) (by kernel_rfl) (by kernel_rfl) rfl (pq_then pq_body) ⟨hE, hB4_0, o7_5, trivial⟩ rfl (fun w hw => R_move rfl) ?_
      refine H_take (i := 4) rfl (by kernel_rfl) (by kernel_rfl) (by kernel_rfl) rfl (pq_then pq_body) ⟨hE, hB4_0, o7_5, trivial⟩ rfl (fun w hw => R_len Try.underlying45 rfl hw.2.2.1.ls.1) ?_
      refine H_take (i := 5) rfl (by kernel_rfl) (by kernel_rfl) (by kernel_rfl) rfl (pq_then pq_body) ⟨hE, hB4_0, o7_5, trivial⟩ rfl (fun w hw => R_slice3 (j := ((mpath F ((((l).drop (0)).take ((split ((l).length)) - 0))) (i))).length) Try.underlying45 Try.sizeOf24 rfl rfl rfl hw.2.2.1.ls.1 (by (try simp only [List.length_take, List.length_drop, List.length_append, List.length_cons, List.length_nil, List.length_replicate, List.length_set, Nm.b_len, be2_len]); omega)) ?_
      refine H_take (i := 6) rfl (by kernel_rfl) (by kernel_rfl) (by kernel_rfl) rfl (pq_then pq_body) ⟨hE, hB4_0, o7_5, trivial⟩ rfl (fun w hw => R_loadA (c := ((mroot F ((((l).drop ((split ((l).length)))).take ((l).length - (split ((l).length))))))).l) Try.isAgg24 Try.sizeOf24 hw.2.1 rfl rfl rfl) ?_
      refine H_op (i := 7) (by kernel_rfl) rfl rfl (D_buildL1 (C := cN) (lo := w.heap.size) (y := (mroot F ((((l).drop ((split ((l).length)))).take ((l).length - (split ((l).length))))))) Try.underlying45 Try.sizeOf24 Try.zeroValue24 (mapp1 rfl) (by decide) trivial (fun v8_7 w8_7 o8_7 e8_7 => ?_))
      have yv8_7_B4_0 : Value.ownBlock v8_7 ≠ some aB4_0 := fun hk => absurd (own_ge o8_7.1 hk) (Nat.not_le.2 hB4_0.lt)
      have zv7_5_v8_7 := own_apart o7_5.1 o8_7.1
      have zv8_7_v7_5 := fun k hk hk2 => zv7_5_v8_7 k hk2 hk
      replace o8_7 := o8_7.low hE.size
      replace hE := hE.trans e8_7
      replace hB4_0 := hB4_0.ext e8_7
      replace o7_5 := o7_5.ext e8_7
      refine ⟨⟨hE, hB4_0, o7_5, trivial⟩, ?_⟩
      refine H_op (i := 8) (by kernel_rfl) rfl rfl (D_appendF elt24 Try.underlying45 rfl rfl o7_5.ls o8_7.ls (by simp) (by (try simp only [List.length_take, List.length_drop, List.length_append, List.length_cons, List.length_nil, List.length_replicate, List.length_set, Nm.b_len, be2_len]); omega) (by (try simp only [List.length_take, List.length_drop, List.length_append, List.length_cons, List.length_nil, List.length_replicate, List.length_set, Nm.b_len, be2_len]); omega) (fun v8_8 w8_8 o8_8 g8_8 => ?_))
      have yv8_8_B4_0 : Value.ownBlock v8_8 ≠ some aB4_0 := fun hk => absurd (own_ge o8_8.1 hk) (Nat.not_le.2 hB4_0.lt)
      have zv7_5_v8_8 := own_apart o7_5.1 o8_8.1
      have zv8_8_v7_5 := fun k hk hk2 => zv7_5_v8_8 k hk2 hk
      have zv8_7_v8_8 := own_apart o8_7.1 o8_8.1
      have zv8_8_v8_7 := fun k hk hk2 => zv8_7_v8_8 k hk2 hk
      replace o8_8 := o8_8.low hE.size
      replace hE := hE.trans g8_8
      replace hB4_0 := hB4_0.ext g8_8
      replace o7_5 := o7_5.ext g8_8
      replace o8_7 := o8_7.ext g8_8
      refine ⟨⟨hE, hB4_0, o7_5, trivial⟩, ?_⟩
      refine H_take (i := 9) rfl (by kernel_rfl) (by kernel_rfl) (by kernel_rfl) rfl (pq_then pq_body) ⟨hE, hB4_0, o7_5, trivial⟩ rfl (fun w hw => R_assign rfl) ?_
      refine H_done (by kernel_rfl) ?_
      refine T_tn ?_
      refine wp_ret ?_
      refine ret1 (v := v8_8) rfl rfl ⟨_, rfl, hE, ?_⟩
      rw [mpath_lo h1 lk]; simp only [cutn_lo, cutn_hi] at o8_8; exact o8_8
    ·
      have lk : ¬ i < split l.length := by have h9 := of_decide_eq_false c2; omega
      have hpl : (mpath F (((l).drop (split l.length)).take (l.length - split l.length)) (i - split l.length)).length ≤ 1000000 := Nat.le_trans (mpath_ln (by (try simp only [List.length_take, List.length_drop]); omega) (by (try simp only [List.length_take, List.length_drop]); omega)) (by (try simp only [List.length_take, List.length_drop]); omega)
      refine W_held (fun W => Ext w W ∧ True) mixed (fun w7_99 e7_99 => ?_)
      replace hE := hE.trans e7_99
      replace hB4_0 := hB4_0.ext e7_99
      refine H_take (i := 0) rfl (by kernel_rfl) (by kernel_rfl) (by kernel_rfl) rfl (pq_then pq_body) ⟨hE, trivial⟩ rfl (fun w hw => R_move rfl) ?_
      refine H_take (i := 1) rfl (by kernel_rfl) (by kernel_rfl) (by kernel_rfl) rfl (pq_then pq_body) ⟨hE, trivial⟩ rfl (fun w hw => R_move rfl) ?_
      refine H_take (i := 2) rfl (by kernel_rfl) (by kernel_rfl) (by kernel_rfl) rfl (pq_then pq_body) ⟨hE, trivial⟩ rfl (fun w hw => R_sliceLo (i := (split ((l).length))) Try.underlying45 Try.sizeOf24 rfl rfl (h.ext hw.1).1 (by (try simp only [List.length_take, List.length_drop, List.length_append, List.length_cons, List.length_nil, List.length_replicate, List.length_set, Nm.b_len, be2_len]); omega)) ?_
      refine H_take (i := 3) rfl (by kernel_rfl) (by kernel_rfl) (by kernel_rfl) rfl (pq_then pq_body) ⟨hE, trivial⟩ rfl (fun w hw => R_move rfl) ?_
      refine H_take (i := 4) rfl (by kernel_rfl) (by kernel_rfl) (by kernel_rfl) rfl (pq_then pq_body) ⟨hE, trivial⟩ rfl (fun w hw => R_move rfl) ?_
      refine H_take (i := 5) rfl (by kernel_rfl) (by kernel_rfl) (by kernel_rfl) rfl (pq_then pq_body) ⟨hE, trivial⟩ rfl (fun w hw => R_subN (m := i) (j := (split ((l).length))) rfl rfl (by (try simp only [List.length_take, List.length_drop, List.length_append, List.length_cons, List.length_nil, List.length_replicate, List.length_set, Nm.b_len, be2_len]); omega) (by (try simp only [List.length_take, List.length_drop, List.length_append, List.length_cons, List.length_nil, List.length_replicate, List.length_set, Nm.b_len, be2_len]); omega)) ?_
      refine H_take (i := 7) rfl (by kernel_rfl) (by kernel_rfl) (by kernel_rfl) rfl (pq_then pq_body) ⟨hE, trivial⟩ rfl (fun w hw => R_move rfl) ?_
      refine H_take (i := 8) rfl (by kernel_rfl) (by kernel_rfl) (by kernel_rfl) rfl (pq_then pq_body) ⟨hE, trivial⟩ rfl (fun w hw => R_move rfl) ?_
      refine H_take (i := 9) rfl (by kernel_rfl) (by kernel_rfl) (by kernel_rfl) rfl (pq_then pq_body) ⟨hE, trivial⟩ rfl (fun w hw => R_move rfl) ?_
      refine H_take (i := 10) rfl (by kernel_rfl) (by kernel_rfl) (by kernel_rfl) rfl (pq_then pq_body) ⟨hE, trivial⟩ rfl (fun w hw => R_slice3 (j := (split ((l).length))) Try.underlying45 Try.sizeOf24 rfl rfl rfl (h.ext hw.1).1 (by (try simp only [List.length_take, List.length_drop, List.length_append, List.length_cons, List.length_nil, List.length_replicate, List.length_set, Nm.b_len, be2_len]); omega)) ?_
      refine H_op (i := 6) (by kernel_rfl) rfl rfl (D_callE (R_callF Try.call177 rfl rfl) (ih (cutV v (Cd.sz cN) ((split ((l).length))) ((l).length)) ((((l).drop ((split ((l).length)))).take ((l).length - (split ((l).length))))) ((i - (split ((l).length)))) _ (by (try simp only [List.length_take, List.length_drop, List.length_append, List.length_cons, List.length_nil, List.length_replicate, List.length_set, Nm.b_len, be2_len]); omega) (by (try simp only [List.length_take, List.length_drop, List.length_append, List.length_cons, List.length_nil, List.length_replicate, List.length_set, Nm.b_len, be2_len]); omega) (by (try simp only [List.length_take, List.length_drop, List.length_append, List.length_cons, List.length_nil, List.length_replicate, List.length_set, Nm.b_len, be2_len]); omega) (((h.ext hE).cut (by (try simp only [List.length_take, List.length_drop, List.length_append, List.length_cons, List.length_nil, List.length_replicate, List.length_set, Nm.b_len, be2_len]); omega) (by (try simp only [List.length_take, List.length_drop, List.length_append, List.length_cons, List.length_nil, List.length_replicate, List.length_set, Nm.b_len, be2_len]); omega)).lev fun _ _ _ => trivial)) (fun v7_6 w7_6 e7_6 p7_6 => ?_))
      have o7_6 := p7_6
      have yv7_6_B4_0 : Value.ownBlock v7_6 ≠ some aB4_0 := fun hk => absurd (own_ge o7_6.1 hk) (Nat.not_le.2 hB4_0.lt)
      replace o7_6 := o7_6.low hE.size
      replace o7_6 := Ow.lev (lo' := w.heap.size) o7_6 (fun _ _ _ => trivial)
      replace hE := hE.trans e7_6
      replace hB4_0 := hB4_0.ext e7_6
      refine ⟨⟨hE, trivial⟩, ?_⟩
      refine H_op (i := 11) (by kernel_rfl) rfl rfl (D_call (R_callF Try.call130 rfl rfl) (c130 F (cutF v ((split ((l).length)))) ((((l).drop (0)).take ((split ((l).length)) - 0))) _ (by (try simp only [List.length_take, List.length_drop, List.length_append, List.length_cons, List.length_nil, List.length_replicate, List.length_set, Nm.b_len, be2_len]); omega) (by (try simp only [List.length_take, List.length_drop, List.length_append, List.length_cons, List.length_nil, List.length_replicate, List.length_set, Nm.b_len, be2_len]); omega) (by (try simp only [List.length_take, List.length_drop, List.length_append, List.length_cons, List.length_nil, List.length_replicate, List.length_set, Nm.b_len, be2_len]); omega) (((h.ext hE).cutF (by (try simp only [List.length_take, List.length_drop, List.length_append, List.length_cons, List.length_nil, List.length_replicate, List.length_set, Nm.b_len, be2_len]); omega)).lev fun _ _ _ => trivial)) (fun w7_11 e7_11 => ?_))
      replace hE := hE.trans e7_11
      replace hB4_0 := hB4_0.ext e7_11
      replace o7_6 := o7_6.ext e7_11
      refine ⟨⟨hE, trivial⟩, ?_⟩
      refine H_take (i := 12) rfl (by kernel_rfl) (by kernel_rfl) (by kernel_rfl) rfl (pq_then pq_body) ⟨hE, trivial⟩ rfl (fun w hw => R_assign rfl) ?_
      have xo7_6 := yv7_6_B4_0
      have h0 := hB4_0
      refine H_op (i := 13) (by kernel_rfl) rfl rfl (D_storeA Try.sizeOf24 hB4_0 rfl rfl rfl rfl rfl (l' := ((mroot F ((((l).drop (0)).take ((split ((l).length)) - 0))))).l) rfl (fun w7_13 k7_13 hB4_0 => ?_))
      have f7_13 := Fb.kp k7_13 (Nat.le_trans (Nat.le_refl _) lB4_0) (Blk.notB h0 rfl)
      replace hE := hE.kp k7_13 lB4_0
      replace o7_6 := o7_6.kp k7_13 xo7_6 f7_13
      refine ⟨⟨hE, trivial⟩, ?_⟩
      refine H_done (by kernel_rfl) ?_
      refine T_tn ?_
      refine wp_seq ?_
      refine W_held (fun W => Ext w W ∧ Blk W aB4_0 ((mroot F ((((l).drop (0)).take ((split ((l).length)) - 0))))).l 24 ∧ Ow cN w.heap.size w.heap.size W v7_6 (mpath F ((((l).drop ((split ((l).length)))).take ((l).length - (split ((l).length))))) ((i - (split ((l).length))))) ∧ True) mixed (fun w8_99 e8_99 => ?_)
      replace hE := hE.trans e8_99
      replace hB4_0 := hB4_0.ext e8_99
      replace o7_6 := o7_6.ext e8_99
      refine H_take (i := 0) rfl (by kernel_rfl) (by kernel_rfl) (by kernel_rfl) rfl (pq_then pq_body) ⟨hE, hB4_0, o7_6, trivial⟩ rfl (fun w hw => R_move rfl) ?_
      refine H_take (i := 1) rfl (by kernel_rfl) (by kernel_rfl) (by kernel_rfl) rfl (pq_then pq_body) ⟨hE, hB4_0, o7_6, trivial⟩ rfl (fun w hw => R_move rfl) ?_
      refine H_take (i := 2) rfl (by kernel_rfl) (by kernel_rfl) (by kernel_rfl) rfl (pq_then pq_body) ⟨hE, hB4_0, o7_6, trivial⟩ rfl (fun w hw => R_len Try.underlying45 rfl hw.2.2.1.ls.1) ?_
      refine H_take (i := 3) rfl (by kernel_rfl) (by kernel_rfl) (by kernel_rfl) rfl (pq_then pq_body) ⟨hE, hB4_0, o7_6, trivial⟩ rfl (fun w hw => R_move rfl) ?_
      refine H_take (i := 4) rfl (by kernel_rfl) (by kernel_rfl) (by kernel_rfl) rfl (pq_then pq_body) ⟨hE, hB4_0, o7_6, trivial⟩ rfl (fun w hw => R_len Try.underlying45 rfl hw.2.2.1.ls.1) ?_
      refine H_take (i := 5) rfl (by kernel_rfl) (by kernel_rfl) (by kernel_rfl) rfl (pq_then pq_body) ⟨hE, hB4_0, o7_6, trivial⟩ rfl (fun w hw => R_slice3 (j := ((mpath F ((((l).drop ((split ((l).length)))).take ((l).length - (split ((l).length))))) ((i - (split ((l).length)))))).length) Try.underlying45 Try.sizeOf24 rfl rfl rfl hw.2.2.1.ls.1 (by (try simp only [List.length_take, List.length_drop, List.length_append, List.length_cons, List.length_nil, List.length_replicate, List.length_set, Nm.b_len, be2_len]); omega)) ?_
      refine H_take (i := 6) rfl (by kernel_rfl) (by kernel_rfl) (by kernel_rfl) rfl (pq_then pq_body) ⟨hE, hB4_0, o7_6, trivial⟩ rfl (fun w hw => R_loadA (c := ((mroot F ((((l).drop (0)).take ((split ((l).length)) - 0))))).l) Try.isAgg24 Try.sizeOf24 hw.2.1 rfl rfl rfl) ?_
      refine H_op (i := 7) (by kernel_rfl) rfl rfl (D_buildL1 (C := cN) (lo := w.heap.size) (y := (mroot F ((((l).drop (0)).take ((split ((l).length)) - 0))))) Try.underlying45 Try.sizeOf24 Try.zeroValue24 (mapp1 rfl) (by decide) trivial (fun v8_7 w8_7 o8_7 e8_7 => ?_))
      have yv8_7_B4_0 : Value.ownBlock v8_7 ≠ some aB4_0 := fun hk => absurd (own_ge o8_7.1 hk) (Nat.not_le.2 hB4_0.lt)
      have zv7_6_v8_7 := own_apart o7_6.1 o8_7.1
      have zv8_7_v7_6 := fun k hk hk2 => zv7_6_v8_7 k hk2 hk
      replace o8_7 := o8_7.low hE.size
      replace hE := hE.trans e8_7
      replace hB4_0 := hB4_0.ext e8_7
      replace o7_6 := o7_6.ext e8_7
      refine ⟨⟨hE, hB4_0, o7_6, trivial⟩, ?_⟩
      refine H_op (i := 8) (by kernel_rfl) rfl rfl (D_appendF elt24 Try.underlying45 rfl rfl o7_6.ls o8_7.ls (by simp) (by (try simp only [List.length_take, List.length_drop, List.length_append, List.length_cons, List.length_nil, List.length_replicate, List.length_set, Nm.b_len, be2_len]); omega) (by (try simp only [List.length_take, List.length_drop, List.length_append, List.length_cons, List.length_nil, List.length_replicate, List.length_set, Nm.b_len, be2_len]); omega) (fun v8_8 w8_8 o8_8 g8_8 => ?_))
      have yv8_8_B4_0 : Value.ownBlock v8_8 ≠ some aB4_0 := fun hk => absurd (own_ge o8_8.1 hk) (Nat.not_le.2 hB4_0.lt)
      have zv7_6_v8_8 := own_apart o7_6.1 o8_8.1
      have zv8_8_v7_6 := fun k hk hk2 => zv7_6_v8_8 k hk2 hk
      have zv8_7_v8_8 := own_apart o8_7.1 o8_8.1
      have zv8_8_v8_7 := fun k hk hk2 => zv8_7_v8_8 k hk2 hk
      replace o8_8 := o8_8.low hE.size
      replace hE := hE.trans g8_8
      replace hB4_0 := hB4_0.ext g8_8
      replace o7_6 := o7_6.ext g8_8
      replace o8_7 := o8_7.ext g8_8
      refine ⟨⟨hE, hB4_0, o7_6, trivial⟩, ?_⟩
      refine H_take (i := 9) rfl (by kernel_rfl) (by kernel_rfl) (by kernel_rfl) rfl (pq_then pq_body) ⟨hE, hB4_0, o7_6, trivial⟩ rfl (fun w hw => R_assign rfl) ?_
      refine H_done (by kernel_rfl) ?_
      refine T_tn ?_
      refine wp_ret ?_
      refine ret1 (v := v8_8) rfl rfl ⟨_, rfl, hE, ?_⟩
      rw [mpath_hi h1 lk]; simp only [cutn_lo, cutn_hi] at o8_8; exact o8_8
theorem c177 (F : Nat) : ∀ (v : Value) (l : List Nm) (i : Nat) (w : World), l.length ≤ F → i < l.length → l.length ≤ 1000000 → Ls cN w.heap.size w v l → Calls Try.prog 177 [v, i64 ((i : Nat) : Int)].toArray w (RetE w fun r w' => Ow cN w.heap.size w.heap.size w' r (mpath F l i)) := by
  induction F with
  | zero => intro v l i w h1 h2; omega
  | succ F ih => exact fun v l i w h1 h2 h3 h4 => c177s F ih v l i w h1 h2 h3 h4
set_option maxRecDepth 4000 in
set_option maxHeartbeats 1000000 in
theorem c157 (F : Nat) (v : Value) (l : List Nm) (i : Nat) (w : World) (hn : l.length ≤ F) (hi : i < l.length) (hb : l.length ≤ 1000000) (h : Ls cN w.heap.size w v l) : Calls Try.prog 157 [v, i64 ((i : Nat) : Int)].toArray w (RetE w fun r w' => ∃ q, r = .tuple #[q, .bool true] ∧ Ow cN w.heap.size w.heap.size w' q (mpath F l i)) := by
  refine enter Try.func157 Try.ntmps157 rfl rfl ?_
  have hE := Ext.refl w
  refine wp_seq ?_
  refine W_region ?_
  refine L (D_v (R_assign rfl) ?_)
  refine L (D_v (R_assign rfl) ?_)
  refine S_nil ?_
  refine T_tn ?_
  refine wp_seq ?_
  refine wp_seq ?_
  refine W_region ?_
  refine L (D_v (R_move rfl) ?_)
  refine L (D_v (R_move rfl) ?_)
  refine L (D_v (R_len Try.underlying45 rfl (h.ext hE).1) ?_)
  refine L (D_call (R_callF Try.call176 rfl rfl) (c176 (i) ((l).length) _ _ rfl (by omega) (by omega)) (fun w2_3 e2_3 => ?_))
  replace hE := hE.trans e2_3
  refine L (D_v (R_lssI rfl rfl) ?_)
  refine S_nil ?_
  refine T_tn ?_
  refine W_if rfl (fun c1 => ?_) (fun c1 => ?_)
  ·
    exfalso; have h9 := of_decide_eq_true c1; omega
  ·
    refine wp_skip ?_
    refine T_tn ?_
    refine wp_seq ?_
    refine W_region ?_
    refine L (D_v (R_move rfl) ?_)
    refine L (D_v (R_move rfl) ?_)
    refine L (D_callE (R_callF Try.call177 rfl rfl) (c177 F v (l) (i) _ (by (try simp only [List.length_take, List.length_drop, List.length_append, List.length_cons, List.length_nil, List.length_replicate, List.length_set, Nm.b_len, be2_len]); omega) (by (try simp only [List.length_take, List.length_drop, List.length_append, List.length_cons, List.length_nil, List.length_replicate, List.length_set, Nm.b_len, be2_len]); omega) (by (try simp only [List.length_take, List.length_drop, List.length_append, List.length_cons, List.length_nil, List.length_replicate, List.length_set, Nm.b_len, be2_len]); omega) ((h.ext hE).lev fun _ _ _ => trivial)) (fun v3_2 w3_2 e3_2 p3_2 => ?_))
    have o3_2 := p3_2
    replace o3_2 := o3_2.low hE.size
    replace o3_2 := Ow.lev (lo' := w.heap.size) o3_2 (fun _ _ _ => trivial)
    replace hE := hE.trans e3_2
    refine L (D_v (R_assign rfl) ?_)
    refine L (D_v (R_assign rfl) ?_)
    refine S_nil ?_
    refine T_tn ?_
    refine wp_ret ?_
    refine ret2 (v := v3_2) (v2 := .bool _) rfl rfl rfl ⟨_, rfl, hE, ?_⟩
    exact ⟨_, rfl, o3_2⟩
set_option maxRecDepth 4000 in
set_option maxHeartbeats 1000000 in
theorem c119s (F : Nat) (ih : ∀ (v : Value) (l : List Nm) (i : Nat) (w : World), l.length ≤ F → i < l.length → l.length ≤ 1000000 → Ls cN w.heap.size w v l → Calls Try.prog 119 [v, i64 ((i : Nat) : Int)].toArray w (RetE w fun r w' => ∃ q, r = .tuple #[q, .bool true] ∧ Ow cN w.heap.size w.heap.size w' q (mpath F l i))) (v : Value) (l : List Nm) (i : Nat) (w : World) (hn : l.length ≤ F + 1) (hi : i < l.length) (hb : l.length ≤ 1000000) (h : Ls cN w.heap.size w v l) : Calls Try.prog 119 [v, i64 ((i : Nat) : Int)].toArray w (RetE w fun r w' => ∃ q, r = .tuple #[q, .bool true] ∧ Ow cN w.heap.size w.heap.size w' q (mpath (F + 1) l i)) := by
  refine enter Try.func119 Try.ntmps119 rfl rfl ?_
  have hE := Ext.refl w
  refine wp_seq ?_
  refine W_region ?_
  refine L (D_v (R_assign rfl) ?_)
  refine L (D_v (R_assign rfl) ?_)
  refine S_nil ?_
  refine T_tn ?_
  refine wp_seq ?_
  refine wp_seq ?_
  refine W_region ?_
  refine L (D_v (R_move rfl) ?_)
  refine L (D_v (R_cast (v' := .bool false) (R_lssI rfl rfl) (congrArg Value.bool (decide_eq_false (by omega)))) ?_)
  refine L (D_v (R_move rfl) ?_)
  refine L (D_on rfl rfl (D_v (R_move rfl) ?_))
  refine L (D_on rfl rfl (D_v (R_move rfl) ?_))
  refine L (D_on rfl rfl (D_v (R_len Try.underlying45 rfl (h.ext hE).1) ?_))
  refine L (D_on rfl rfl (D_v (R_geqI rfl rfl) ?_))
  refine L (D_v (R_pick rfl rfl rfl) ?_)
  refine S_nil ?_
  refine T_tn ?_
  refine W_if rfl (fun c1 => ?_) (fun c1 => ?_)
  ·
    exfalso; revert c1; generalize l.length = m9 at *; simp; omega
  ·
    refine wp_skip ?_
    refine T_tn ?_
    refine wp_seq ?_
    refine wp_seq ?_
    refine W_region ?_
    refine L (D_v (R_move rfl) ?_)
    refine L (D_v (R_len Try.underlying45 rfl (h.ext hE).1) ?_)
    refine L (D_v (R_eqlI rfl rfl) ?_)
    refine S_nil ?_
    refine T_tn ?_
    refine W_if rfl (fun c2 => ?_) (fun c2 => ?_)
    ·
      have h1 : l.length = 1 := by have h9 := eq_of_beq c2; omega
      refine wp_seq ?_
      refine W_region ?_
      refine L (D_v (R_assign rfl) ?_)
      refine L (D_v (R_assign rfl) ?_)
      refine S_nil ?_
      refine T_tn ?_
      refine wp_ret ?_
      refine T_tr ?_
      refine ret2 (v := (Value.slice none 0 0)) (v2 := .bool _) rfl rfl rfl ⟨_, rfl, hE, ?_⟩
      rw [mpath_one h1]; exact ⟨_, rfl, Ow.nil _ _ _ _⟩
    ·
      have h1 : l.length ≠ 1 := by have h9 := ne_of_beq_false c2; omega
      have hsb := split_bound (n := l.length) (by omega)
      refine wp_skip ?_
      refine T_tn ?_
      refine wp_seq ?_
      refine W_region ?_
      refine L (D_v (R_move rfl) ?_)
      refine L (D_v (R_len Try.underlying45 rfl (h.ext hE).1) ?_)
      refine L (D_call (R_callF Try.call141 rfl rfl) (c141 ((l).length) _ (by omega) (by omega)) (fun w4_2 e4_2 => ?_))
      replace hE := hE.trans e4_2
      refine L (D_v (R_assign rfl) ?_)
      refine S_nil ?_
      refine T_tn ?_
      refine wp_seq ?_
      refine wp_seq ?_
      refine W_region ?_
      refine L (D_v (R_move rfl) ?_)
      refine L (D_v (R_move rfl) ?_)
      refine L (D_v (R_lssI rfl rfl) ?_)
      refine S_nil ?_
      refine T_tn ?_
      refine W_if rfl (fun c3 => ?_) (fun c3 => ?_)
      ·
        have lk : i < split l.length := by have h9 := of_decide_eq_true c3; omega
        have hpl : (mpath F (((l).drop (0)).take (split l.length - 0)) (i)).length ≤ 1000000 := Nat.le_trans (mpath_ln (by (try simp only [List.length_take, List.length_drop]); omega) (by (try simp only [List.length_take, List.length_drop]); omega)) (by (try simp only [List.length_take, List.length_drop]); omega)
        refine wp_seq ?_
        refine W_region ?_
        refine L (D_v (R_move rfl) ?_)
        refine L (D_v (R_move rfl) ?_)
        refine L (D_v (R_sliceHi (j := (split ((l).length))) Try.underlying45 Try.sizeOf24 rfl rfl (h.ext hE).1 (by (try simp only [List.length_take, List.length_drop, List.length_append, List.length_cons, List.length_nil, List.length_replicate, List.length_set, Nm.b_len, be2_len]); omega)) ?_)
        refine L (D_v (R_move rfl) ?_)
        refine L (D_callE (R_callF Try.call119 rfl rfl) (ih (cutV v (Cd.sz cN) (0) ((split ((l).length)))) ((((l).drop (0)).take ((split ((l).length)) - 0))) (i) _ (by (try simp only [List.length_take, List.length_drop, List.length_append, List.length_cons, List.length_nil, List.length_replicate, List.length_set, Nm.b_len, be2_len]); omega) (by (try simp only [List.length_take, List.length_drop, List.length_append, List.length_cons, List.length_nil, List.length_replicate, List.length_set, Nm.b_len, be2_len]); omega) (by (try simp only [List.length_take, List.length_drop, List.length_append, List.length_cons, List.length_nil, List.length_replicate, List.length_set, Nm.b_len, be2_len]); omega) (((h.ext hE).cut (by (try simp only [List.length_take, List.length_drop, List.length_append, List.length_cons, List.length_nil, List.length_replicate, List.length_set, Nm.b_len, be2_len]); omega) (by (try simp only [List.length_take, List.length_drop, List.length_append, List.length_cons, List.length_nil, List.length_replicate, List.length_set, Nm.b_len, be2_len]); omega)).lev fun _ _ _ => trivial)) (fun v6_4 w6_4 e6_4 p6_4 => ?_))
        obtain ⟨q6_4, rfl, o6_4⟩ := p6_4
        replace o6_4 := o6_4.low hE.size
        replace o6_4 := Ow.lev (lo' := w.heap.size) o6_4 (fun _ _ _ => trivial)
        replace hE := hE.trans e6_4
        refine L (D_v (R_move rfl) ?_)
        refine L (D_v (R_extract rfl rfl) ?_)
        refine L (D_v (R_extract rfl rfl) ?_)
        refine L (D_v (R_assign rfl) ?_)
        refine L (D_v (R_assign rfl) ?_)
        refine S_nil ?_
        refine T_tn ?_
        refine wp_seq ?_
        refine W_region ?_
        refine L (D_v (R_move rfl) ?_)
        refine L (D_v (R_move rfl) ?_)
        refine L (D_v (R_move rfl) ?_)
        refine L (D_v (R_sliceLo (i := (split ((l).length))) Try.underlying45 Try.sizeOf24 rfl rfl (h.ext hE).1 (by (try simp only [List.length_take, List.length_drop, List.length_append, List.length_cons, List.length_nil, List.length_replicate, List.length_set, Nm.b_len, be2_len]); omega)) ?_)
        refine L (D_call (R_callF Try.call140 rfl rfl) (c140 F (cutV v (Cd.sz cN) ((split ((l).length))) ((l).length)) ((((l).drop ((split ((l).length)))).take ((l).length - (split ((l).length))))) _ (by (try simp only [List.length_take, List.length_drop, List.length_append, List.length_cons, List.length_nil, List.length_replicate, List.length_set, Nm.b_len, be2_len]); omega) (by (try simp only [List.length_take, List.length_drop, List.length_append, List.length_cons, List.length_nil, List.length_replicate, List.length_set, Nm.b_len, be2_len]); omega) (by (try simp only [List.length_take, List.length_drop, List.length_append, List.length_cons, List.length_nil, List.length_replicate, List.length_set, Nm.b_len, be2_len]); omega) (((h.ext hE).cut (by (try simp only [List.length_take, List.length_drop, List.length_append, List.length_cons, List.length_nil, List.length_replicate, List.length_set, Nm.b_len, be2_len]); omega) (by (try simp only [List.length_take, List.length_drop, List.length_append, List.length_cons, List.length_nil, List.length_replicate, List.length_set, Nm.b_len, be2_len]); omega)).lev fun _ _ _ => trivial)) (fun w7_4 e7_4 => ?_))
        replace hE := hE.trans e7_4
        replace o6_4 := o6_4.ext e7_4
        refine L (D_buildL1 (C := cN) (lo := w.heap.size) (y := (mroot F ((((l).drop ((split ((l).length)))).take ((l).length - (split ((l).length))))))) Try.underlying45 Try.sizeOf24 Try.zeroValue24 (mapp1 rfl) (by decide) trivial (fun v7_5 w7_5 o7_5 e7_5 => ?_))
        have zq6_4_v7_5 := own_apart o6_4.1 o7_5.1
        have zv7_5_q6_4 := fun k hk hk2 => zq6_4_v7_5 k hk2 hk
        replace o7_5 := o7_5.low hE.size
        replace hE := hE.trans e7_5
        replace o6_4 := o6_4.ext e7_5
        refine L (D_appendL elt24 Try.underlying45 rfl rfl o6_4 (Nat.le_refl _) o7_5.ls (by (try simp only [List.length_take, List.length_drop, List.length_append, List.length_cons, List.length_nil, List.length_replicate, List.length_set, Nm.b_len, be2_len]); omega) (by (try simp only [List.length_take, List.length_drop, List.length_append, List.length_cons, List.length_nil, List.length_replicate, List.length_set, Nm.b_len, be2_len]); omega) hE.size (fun v7_6 w7_6 o7_6 g7_6 f7_6 sv7_6 => ?_))
        have zv7_5_v7_6 : ∀ k, Value.ownBlock v7_5 = some k → Value.ownBlock v7_6 ≠ some k := fun k hk2 hk => (sv7_6 _ hk).elim (fun h => zv7_5_q6_4 k hk2 h) (fun h => absurd h (Nat.not_le.2 (own_lt o7_5.1 hk2)))
        have zv7_6_v7_5 := fun k hk hk2 => zv7_5_v7_6 k hk2 hk
        replace hE := hE.grown g7_6 (fun k hk => own_ge o6_4.1 hk)
        replace o7_5 := o7_5.grown g7_6 (zv7_5_q6_4) f7_6
        refine L (D_v (R_assign rfl) ?_)
        refine L (D_v (R_assign rfl) ?_)
        refine S_nil ?_
        refine T_tn ?_
        refine wp_ret ?_
        refine T_tr ?_
        refine ret2 (v := v7_6) (v2 := .bool _) rfl rfl rfl ⟨_, rfl, hE, ?_⟩
        rw [mpath_lo h1 lk]; simp only [cutn_lo, cutn_hi] at o7_6; exact ⟨_, rfl, o7_6⟩
      ·
        have lk : ¬ i < split l.length := by have h9 := of_decide_eq_false c3; omega
        have hpl : (mpath F (((l).drop (split l.length)).take (l.length - split l.length)) (i - split l.length)).length ≤ 1000000 := Nat.le_trans (mpath_ln (by (try simp only [List.length_take, List.length_drop]); omega) (by (try simp only [List.length_take, List.length_drop]); omega)) (by (try simp only [List.length_take, List.length_drop]); omega)
        refine wp_skip ?_
        refine T_tn ?_
        refine wp_seq ?_
        refine W_region ?_
        refine L (D_v (R_move rfl) ?_)
        refine L (D_v (R_move rfl) ?_)
        refine L (D_v (R_sliceLo (i := (split ((l).length))) Try.underlying45 Try.sizeOf24 rfl rfl (h.ext hE).1 (by (try simp only [List.length_take, List.length_drop, List.length_append, List.length_cons, List.length_nil, List.length_replicate, List.length_set, Nm.b_len, be2_len]); omega)) ?_)
        refine L (D_v (R_move rfl) ?_)
        refine L (D_v (R_move rfl) ?_)
        refine L (D_v (R_subN (m := i) (j := (split ((l).length))) rfl rfl (by (try simp only [List.length_take, List.length_drop, List.length_append, List.length_cons, List.length_nil, List.length_replicate, List.length_set, Nm.b_len, be2_len]); omega) (by (try simp only [List.length_take, List.length_drop, List.length_append, List.length_cons, List.length_nil, List.length_replicate, List.length_set, Nm.b_len, be2_len]); omega)) ?_)
        refine L (D_callE (R_callF Try.call119 rfl rfl) (ih (cutV v (Cd.sz cN) ((split ((l).length))) ((l).length)) ((((l).drop ((split ((l).length)))).take ((l).length - (split ((l).length))))) ((i - (split ((l).length)))) _ (by (try simp only [List.length_take, List.length_drop, List.length_append, List.length_cons, List.length_nil, List.length_replicate, List.length_set, Nm.b_len, be2_len]); omega) (by (try simp only [List.length_take, List.length_drop, List.length_append, List.length_cons, List.length_nil, List.length_replicate, List.length_set, Nm.b_len, be2_len]); omega) (by (try simp only [List.length_take, List.length_drop, List.length_append, List.length_cons, List.length_nil, List.length_replicate, List.length_set, Nm.b_len, be2_len]); omega) (((h.ext hE).cut (by (try simp only [List.length_take, List.length_drop, List.length_append, List.length_cons, List.length_nil, List.length_replicate, List.length_set, Nm.b_len, be2_len]); omega) (by (try simp only [List.length_take, List.length_drop, List.length_append, List.length_cons, List.length_nil, List.length_replicate, List.length_set, Nm.b_len, be2_len]); omega)).lev fun _ _ _ => trivial)) (fun v6_6 w6_6 e6_6 p6_6 => ?_))
        obtain ⟨q6_6, rfl, o6_6⟩ := p6_6
        replace o6_6 := o6_6.low hE.size
        replace o6_6 := Ow.lev (lo' := w.heap.size) o6_6 (fun _ _ _ => trivial)
        replace hE := hE.trans e6_6
        refine L (D_v (R_move rfl) ?_)
        refine L (D_v (R_extract rfl rfl) ?_)
        refine L (D_v (R_extract rfl rfl) ?_)
        refine L (D_v (R_assign rfl) ?_)
        refine L (D_v (R_assign rfl) ?_)
        refine S_nil ?_
        refine T_tn ?_
        refine wp_seq ?_
        refine W_region ?_
        refine L (D_v (R_move rfl) ?_)
        refine L (D_v (R_move rfl) ?_)
        refine L (D_v (R_move rfl) ?_)
        refine L (D_v (R_sliceHi (j := (split ((l).length))) Try.underlying45 Try.sizeOf24 rfl rfl (h.ext hE).1 (by (try simp only [List.length_take, List.length_drop, List.length_append, List.length_cons, List.length_nil, List.length_replicate, List.length_set, Nm.b_len, be2_len]); omega)) ?_)
        refine L (D_call (R_callF Try.call140 rfl rfl) (c140 F (cutV v (Cd.sz cN) (0) ((split ((l).length)))) ((((l).drop (0)).take ((split ((l).length)) - 0))) _ (by (try simp only [List.length_take, List.length_drop, List.length_append, List.length_cons, List.length_nil, List.length_replicate, List.length_set, Nm.b_len, be2_len]); omega) (by (try simp only [List.length_take, List.length_drop, List.length_append, List.length_cons, List.length_nil, List.length_replicate, List.length_set, Nm.b_len, be2_len]); omega) (by (try simp only [List.length_take, List.length_drop, List.length_append, List.length_cons, List.length_nil, List.length_replicate, List.length_set, Nm.b_len, be2_len]); omega) (((h.ext hE).cut (by (try simp only [List.length_take, List.length_drop, List.length_append, List.length_cons, List.length_nil, List.length_replicate, List.length_set, Nm.b_len, be2_len]); omega) (by (try simp only [List.length_take, List.length_drop, List.length_append, List.length_cons, List.length_nil, List.length_replicate, List.length_set, Nm.b_len, be2_len]); omega)).lev fun _ _ _ => trivial)) (fun w7_4 e7_4 => ?_))
        replace hE := hE.trans e7_4
        replace o6_6 := o6_6.ext e7_4
        refine L (D_buildL1 (C := cN) (lo := w.heap.size) (y := (mroot F ((((l).drop (0)).take ((split ((l).length)) - 0))))) Try.underlying45 Try.sizeOf24 Try.zeroValue24 (mapp1 rfl) (by decide) trivial (fun v7_5 w7_5 o7_5 e7_5 => ?_))
        have zq6_6_v7_5 := own_apart o6_6.1 o7_5.1
        have zv7_5_q6_6 := fun k hk hk2 => zq6_6_v7_5 k hk2 hk
        replace o7_5 := o7_5.low hE.size
        replace hE := hE.trans e7_5
        replace o6_6 := o6_6.ext e7_5
        refine L (D_appendL elt24 Try.underlying45 rfl rfl o6_6 (Nat.le_refl _) o7_5.ls (by (try simp only [List.length_take, List.length_drop, List.length_append, List.length_cons, List.length_nil, List.length_replicate, List.length_set, Nm.b_len, be2_len]); omega) (by (try simp only [List.length_take, List.length_drop, List.length_append, List.length_cons, List.length_nil, List.length_replicate, List.length_set, Nm.b_len, be2_len]); omega) hE.size (fun v7_6 w7_6 o7_6 g7_6 f7_6 sv7_6 => ?_))
        have zv7_5_v7_6 : ∀ k, Value.ownBlock v7_5 = some k → Value.ownBlock v7_6 ≠ some k := fun k hk2 hk => (sv7_6 _ hk).elim (fun h => zv7_5_q6_6 k hk2 h) (fun h => absurd h (Nat.not_le.2 (own_lt o7_5.1 hk2)))
        have zv7_6_v7_5 := fun k hk hk2 => zv7_5_v7_6 k hk2 hk
        replace hE := hE.grown g7_6 (fun k hk => own_ge o6_6.1 hk)
        replace o7_5 := o7_5.grown g7_6 (zv7_5_q6_6) f7_6
        refine L (D_v (R_assign rfl) ?_)
        refine L (D_v (R_assign rfl) ?_)
        refine S_nil ?_
        refine T_tn ?_
        refine wp_ret ?_
        refine ret2 (v := v7_6) (v2 := .bool _) rfl rfl rfl ⟨_, rfl, hE, ?_⟩
        rw [mpath_hi h1 lk]; simp only [cutn_lo, cutn_hi] at o7_6; exact ⟨_, rfl, o7_6⟩
theorem c119 (F : Nat) : ∀ (v : Value) (l : List Nm) (i : Nat) (w : World), l.length ≤ F → i < l.length → l.length ≤ 1000000 → Ls cN w.heap.size w v l → Calls Try.prog 119 [v, i64 ((i : Nat) : Int)].toArray w (RetE w fun r w' => ∃ q, r = .tuple #[q, .bool true] ∧ Ow cN w.heap.size w.heap.size w' q (mpath F l i)) := by
  induction F with
  | zero => intro v l i w h1 h2; omega
  | succ F ih => exact fun v l i w h1 h2 h3 h4 => c119s F ih v l i w h1 h2 h3 h4
set_option maxRecDepth 4000 in
set_option maxHeartbeats 1000000 in
theorem c120 (n : Nm) (lv t : Nat) (w : World) : Calls Try.prog 120 [n.v, i64 ((lv : Nat) : Int), i64 ((t : Nat) : Int)].toArray w (RetE w fun r w' => Ow cN w.heap.size w.heap.size w' r (leavesN n lv t)) := by
  refine enter Try.func120 Try.ntmps120 rfl rfl ?_
  have hE := Ext.refl w
  refine wp_seq ?_
  refine W_region ?_
  refine L (D_box (c := (n).l) (rfl) (fun aB1_0 w1_0 e1_0 gB1_0 hB1_0 => ?_))
  have lB1_0 := Nat.le_trans hE.size gB1_0
  replace hE := hE.trans e1_0
  refine L (D_v (R_assign rfl) ?_)
  refine S_nil ?_
  refine T_tn ?_
  refine wp_seq ?_
  refine W_region ?_
  refine L (D_v (R_assign rfl) ?_)
  refine S_nil ?_
  refine T_tn ?_
  refine wp_seq ?_
  refine wp_seq ?_
  refine W_region ?_
  refine L (D_v (R_assign rfl) ?_)
  refine S_nil ?_
  refine T_tn ?_
  refine wp_block ?_
  refine W_loop (fun mz g W => ∃ (es : List Nm) (c : Nat) (r7 : Value), mz = 32 - c ∧ g 1 = i64 ((lv : Nat) : Int) ∧ g 2 = i64 ((t : Nat) : Int) ∧ g 3 = .pointer (some ⟨aB1_0, 0, none⟩) ∧ g 7 = r7 ∧ g 8 = i64 ((c : Nat) : Int) ∧ Ext w W ∧ Blk W aB1_0 (n).l 24 ∧ Ow cN w.heap.size w.heap.size W r7 es ∧ Value.ownBlock r7 ≠ some aB1_0 ∧ c ≤ 32 ∧ es = (leavesN n lv t).take c) ⟨[], 0, _, rfl, rfl, rfl, rfl, rfl, rfl, hE, hB1_0, (Ow.nil cN w.heap.size _ _), (fun h => nomatch (show (none : Option Nat) = some _ from h)), (Nat.zero_le _), (by simp)⟩ ?_
  rintro mz f4 w4l ⟨es, c, r7, hm, q1, q2, q3, q7, q8, hE, hB1_0, or7, yr7_B1_0, hc, he⟩
  have hel : es.length ≤ 32 := by rw [he, List.length_take]; omega
  refine wp_seq ?_
  refine wp_seq ?_
  refine W_region ?_
  refine L (D_v (R_move q8) ?_)
  refine L (D_v (R_lssI rfl rfl) ?_)
  refine S_nil ?_
  refine T_tn ?_
  refine W_if rfl (fun c1 => ?_) (fun c1 => ?_)
  ·
    have lk : c < 32 := by have h1 := of_decide_eq_true c1; omega
    refine wp_skip ?_
    refine T_tn ?_
    refine wp_seq ?_
    refine wp_block ?_
    refine W_region ?_
    refine L (D_v (R_move q7) ?_)
    refine L (D_v (R_loadA (c := (n).l) Try.isAgg24 Try.sizeOf24 hB1_0 q3 rfl rfl) ?_)
    refine L (D_v (R_move q1) ?_)
    refine L (D_v (R_move q2) ?_)
    refine L (D_v (R_move q8) ?_)
    refine L (D_call (R_callF Try.call123 rfl rfl) (c123 (n) (lv) (t) (c) _) (fun w6_5 e6_5 => ?_))
    replace hE := hE.trans e6_5
    replace hB1_0 := hB1_0.ext e6_5
    replace or7 := or7.ext e6_5
    refine L (D_call (R_callF Try.call142 rfl rfl) (c142 ((keyN n (lv) (t) (c))) _) (fun w6_6 e6_6 => ?_))
    replace hE := hE.trans e6_6
    replace hB1_0 := hB1_0.ext e6_6
    replace or7 := or7.ext e6_6
    refine L (D_buildL1 (C := cN) (lo := w.heap.size) (y := (onePub (keyN n (lv) (t) (c)))) Try.underlying45 Try.sizeOf24 Try.zeroValue24 (mapp1 rfl) (by decide) trivial (fun v6_7 w6_7 o6_7 e6_7 => ?_))
    have yv6_7_B1_0 : Value.ownBlock v6_7 ≠ some aB1_0 := fun hk => absurd (own_ge o6_7.1 hk) (Nat.not_le.2 hB1_0.lt)
    have zr7_v6_7 := own_apart or7.1 o6_7.1
    have zv6_7_r7 := fun k hk hk2 => zr7_v6_7 k hk2 hk
    replace o6_7 := o6_7.low hE.size
    replace hE := hE.trans e6_7
    replace hB1_0 := hB1_0.ext e6_7
    replace or7 := or7.ext e6_7
    refine L (D_appendL elt24 Try.underlying45 rfl rfl or7 (Nat.le_refl _) o6_7.ls (by (try simp only [List.length_take, List.length_drop, List.length_append, List.length_cons, List.length_nil, List.length_replicate, List.length_set, Nm.b_len, be2_len]); omega) (by (try simp only [List.length_take, List.length_drop, List.length_append, List.length_cons, List.length_nil, List.length_replicate, List.length_set, Nm.b_len, be2_len]); omega) hE.size (fun v6_8 w6_8 o6_8 g6_8 f6_8 sv6_8 => ?_))
    have yv6_8_B1_0 : Value.ownBlock v6_8 ≠ some aB1_0 := fun hk => (sv6_8 _ hk).elim yr7_B1_0 (fun h => absurd h (Nat.not_le.2 hB1_0.lt))
    have zv6_7_v6_8 : ∀ k, Value.ownBlock v6_7 = some k → Value.ownBlock v6_8 ≠ some k := fun k hk2 hk => (sv6_8 _ hk).elim (fun h => zv6_7_r7 k hk2 h) (fun h => absurd h (Nat.not_le.2 (own_lt o6_7.1 hk2)))
    have zv6_8_v6_7 := fun k hk hk2 => zv6_7_v6_8 k hk2 hk
    replace hE := hE.grown g6_8 (fun k hk => own_ge or7.1 hk)
    replace hB1_0 := hB1_0.grown g6_8 (yr7_B1_0)
    replace o6_7 := o6_7.grown g6_8 (zv6_7_r7) f6_8
    refine L (D_v (R_assign rfl) ?_)
    refine S_nil ?_
    refine T_bn ?_
    refine T_tn ?_
    refine W_region ?_
    refine L (D_v (R_move q8) ?_)
    refine L (D_v (R_addN (m := c) (j := 1) rfl rfl (by (try simp only [List.length_take, List.length_drop, List.length_append, List.length_cons, List.length_nil, List.length_replicate, List.length_set, Nm.b_len, be2_len]); omega)) ?_)
    refine L (D_v (R_assign rfl) ?_)
    refine S_nil ?_
    refine T_tn ?_
    refine ⟨_, _, ?_, rfl, _, c + 1, _, rfl, q1, q2, q3, rfl, rfl, hE, hB1_0, o6_8, yv6_8_B1_0, ?_, ?_⟩
    all_goals first | omega | exact push_next he (leavesN_at n lv t lk)
  ·
    have lk : ¬ c < 32 := by have h1 := of_decide_eq_false c1; omega
    refine wp_exit ?_
    refine T_te ?_
    refine T_te ?_
    refine T_be ?_
    refine T_tn ?_
    refine wp_seq ?_
    refine W_region ?_
    refine L (D_v (R_move q7) ?_)
    refine L (D_v (R_assign rfl) ?_)
    refine S_nil ?_
    refine T_tn ?_
    refine wp_ret ?_
    refine ret1 (v := r7) rfl rfl ⟨_, rfl, hE, ?_⟩
    obtain rfl : c = 32 := by omega
    have hes : es = leavesN n lv t := push_all he (by rw [leavesN_len]; omega)
    rw [← hes]; exact or7
end Go.Proofs.Yteeopgpgbdhmhaa
namespace Go.Proofs.Yteeopgpgbdhmhaa
open Go.RowKit Go.Lib
set_option linter.unusedVariables false
set_option linter.unusedSimpArgs false
theorem flatb_next {es : List Nm} {i : Nat} {x : Nm} {b p : List UInt8} (h : b = p ++ (es.take i).flatMap Nm.b) (hx : es[i]? = some x) : b ++ x.b = p ++ (es.take (i + 1)).flatMap Nm.b := by
  rw [h, List.append_assoc, flat_next rfl hx]
theorem pl23 (n x : Nm) (lv t j : Nat) (hj : j < 32) : (oneSig (keyN n lv t j) x ++ mpath 32 (leavesN n lv t) j).length = 23 := by
  rw [List.length_append, oneSig_len, mpath5 n lv t hj]
def Gr (B : Option Nat) (w W : World) : Prop := w.grownBy W B
theorem Gr.refl (B : Option Nat) (w : World) : Gr B w w := ⟨rfl, rfl, rfl, Nat.le_refl _, fun _ _ _ => rfl⟩
theorem Gr.size {B : Option Nat} {w W : World} (h : Gr B w W) : w.heap.size ≤ W.heap.size := h.4
theorem Gr.trans {B : Option Nat} {w W V : World} (h : Gr B w W) (e : Ext W V) : Gr B w V :=
  ⟨(Below.os e).trans h.1, (Below.tape e).trans h.2, (Below.output e).trans h.3, Nat.le_trans h.4 e.size, fun k hk hb => (Below.block e k (Nat.lt_of_lt_of_le hk h.4)).trans (h.5 k hk hb)⟩
theorem Gr.kp {B : Option Nat} {w W V : World} {g : Nat} (h : Gr B w W) (k : Kp g W V) (hg : w.heap.size ≤ g) : Gr B w V :=
  ⟨k.os.trans h.1, k.tape.trans h.2, k.output.trans h.3, by rw [k.size]; exact h.4, fun i hi hb => (k.block i (by omega)).trans (h.5 i hi hb)⟩
theorem Gr.grown {B row : Option Nat} {w W V : World} (h : Gr B w W) (g : W.grownBy V row) (hr : ∀ k, row = some k → B = some k ∨ w.heap.size ≤ k) : Gr B w V :=
  ⟨g.1.trans h.1, g.2.trans h.2, g.3.trans h.3, Nat.le_trans h.4 g.4, fun k hk hb => (g.5 k (Nat.lt_of_lt_of_le hk h.4) (fun e => by
    rcases hr k e.symm with h1 | h1
    · exact hb h1.symm
    · omega)).trans (h.5 k hk hb)⟩
structure Gx (row : Option Nat) (m : Nat) (w W : World) : Prop where
  os : W.os = w.os
  tape : W.tape = w.tape
  output : W.output = w.output
  size : w.heap.size ≤ W.heap.size
  block : ∀ k, k < w.heap.size → some k ≠ row → k ≠ m → W.heap[k]? = w.heap[k]?
theorem Gx.of {B : Option Nat} {m : Nat} {a b c : World} (h : Chg m a b) (g : Gr B b c) : Gx B m a c :=
  ⟨g.1.trans h.os, g.2.trans h.tape, g.3.trans h.output, Nat.le_trans h.size g.4, fun k hk hb hm => (g.5 k (Nat.lt_of_lt_of_le hk h.size) hb).trans (h.block k hk hm)⟩
theorem Chg.pre {m : Nat} {a b c : World} (h : Ext a b) (k : Chg m b c) : Chg m a c :=
  ⟨k.os.trans (Below.os h), k.tape.trans (Below.tape h), k.output.trans (Below.output h), Nat.le_trans h.size k.size, fun i hi hm => (k.block i (Nat.lt_of_lt_of_le hi h.size) hm).trans (Below.block h i hi)⟩
theorem Chg.gx {m : Nat} {row : Option Nat} {a b c : World} (h : Chg m a b) (g : Gx row m b c) (hr : ∀ k, row = some k → a.heap.size ≤ k) : Chg m a c :=
  ⟨g.os.trans h.os, g.tape.trans h.tape, g.output.trans h.output, Nat.le_trans h.size g.size, fun k hk hm => (g.block k (Nat.lt_of_lt_of_le hk h.size) (fun e => by have := hr k e.symm; omega) hm).trans (h.block k hk hm)⟩
theorem Chg.grown {m : Nat} {row : Option Nat} {a b c : World} (h : Chg m a b) (g : b.grownBy c row) (hr : ∀ k, row = some k → a.heap.size ≤ k) : Chg m a c :=
  ⟨g.1.trans h.os, g.2.trans h.tape, g.3.trans h.output, Nat.le_trans h.size g.4, fun k hk hm => (g.5 k (Nat.lt_of_lt_of_le hk h.size) (fun e => by have := hr k e.symm; omega)).trans (h.block k hk hm)⟩
theorem Blk.gx {w W : World} {g m : Nat} {row : Option Nat} {l : List Value} {T : TypeId} (h : Blk w g l T) (x : Gx row m w W) (hm : g ≠ m) (hr : row ≠ some g) : Blk W g l T := (x.block g h.lt (fun e => hr e.symm) hm).trans h
section
variable {P : Program} {ops : Array Oper} {Q : Exit → Act → World → Prop} {K : Act → World → Prop} {n : Nat} {f : Nat → Value} {w : World} {d : Option Tmp} {op : Op} {ty : TypeId} {pos : String} {aft : Array Edge}
theorem D_callX {F : FuncId} {args : Array Value} {Φ : Value → World → Prop} (h : (execOp (ov n f) ⟨d, op, ty, pos, aft, none⟩).run P w = .ok (.enter F args) w) (hc : Calls P F args w (fun e w' => ∃ v, e = .returned v ∧ Φ v w'))
    (k : ∀ v w', Φ v w' → K (E n (upo f d v)) w') : wpO P ops Q ⟨d, op, ty, pos, aft, none⟩ K (E n f) w := by
  simp only [wpO, Region.wanted, if_true]
  refine .inl ?_
  simp only [Oper.wp, E_eval, h, Oper.upon]
  refine hc.mono ?_
  rintro e w1 ⟨v, rfl, h1⟩
  simp only [E_put]
  exact k v w1 h1
end
section
variable {P : Program} {ops : Array Oper} {Q : Exit → Act → World → Prop} {K : Act → World → Prop} {n : Nat} {f : Nat → Value} {w : World} {d : Option Tmp} {op : Op} {ty : TypeId} {pos : String} {aft : Array Edge}
end
theorem Bf.cut {lo : Nat} {w : World} {v : Value} {b : List UInt8} (h : Bf lo w v b) {i j : Nat} (hij : i ≤ j) (hj : j ≤ b.length) : Bf lo w (cutV v 1 i j) ((b.drop i).take (j - i)) := fun w' f => (h w' f).cut hij hj
def RetX (B : World → Prop) (Φ : Value → World → Prop) : Ending → World → Prop := fun e w' => ∃ v, e = .returned v ∧ B w' ∧ Φ v w'
def kv2 (a b : Nat) : Value := .agg #[i64 ((a : Nat) : Int), i64 ((b : Nat) : Int)]
theorem keyed170 : Maps.Keyed Try.prog 170 :=
  Maps.Keyed.of_law (deep_law_gate laidOut (of_decide_eq_true (by kernel_rfl)) (of_decide_eq_true (by kernel_rfl)) (by kernel_rfl) (by kernel_rfl))
theorem tsz2 : ∃ n, Try.prog.types.size + 1 = n + 2 := ⟨Try.prog.types.size - 1, by
  have : 2 ≤ Try.prog.types.size := of_decide_eq_true (by kernel_rfl)
  omega⟩
theorem mapM_ex2 {α β : Type} {f : α → Option β} : ∀ {l : List α}, (∀ x ∈ l, ∃ y, f x = some y) → ∃ ys, l.mapM f = some ys
  | [], _ => ⟨[], rfl⟩
  | x :: l, h => by
    obtain ⟨y, hy⟩ := h x (List.mem_cons_self ..)
    obtain ⟨ys, hys⟩ := mapM_ex2 (fun z hz => h z (List.mem_cons_of_mem _ hz))
    exact ⟨y :: ys, by simp [List.mapM_cons, hy, hys]⟩
theorem kl_nat {d : Nat} {a : Nat} (h : a ≤ 1000000) : ∃ l, Try.prog.keyLits (d + 1) 3 [i64 ((a : Nat) : Int)] = some l := by
  refine ⟨[.int .i64 ((a : Nat) : Int)], ?_⟩
  have h1 : IntKind.i64.min ≤ ((a : Nat) : Int) := Int.le_trans (by decide) (Int.natCast_nonneg a)
  have h2 : ((a : Nat) : Int) ≤ IntKind.i64.max := Int.le_trans (show ((a : Nat) : Int) ≤ 1000000 by omega) (by decide)
  simp [Program.keyLits, Try.underlying3, i64, Lit.wf, h1]
  exact h2
theorem keyOf2 {a b : Nat} (ha : a ≤ 1000000) (hb : b ≤ 1000000) : ∃ l, keyOf Try.prog 170 (kv2 a b) = some l := by
  obtain ⟨n, hn⟩ := tsz2
  unfold keyOf
  rw [Try.underlying170]
  simp only []
  have hkt : Try.prog.keyType 170 = true := by kernel_rfl
  have hc : Try.prog.cellsOf 170 = 2 := by kernel_rfl
  have c3 : Try.prog.cellsOf 3 = 1 := by kernel_rfl
  have hf : (kv2 a b).formed Try.prog 170 = true := by
    unfold kv2 Value.formed
    rw [Try.underlying170, hc]; rfl
  rw [hkt, hf, hn]
  have hl : (kv2 a b).cells.toList = [i64 ((a : Nat) : Int), i64 ((b : Nat) : Int)] := by unfold kv2 Value.cells; rfl
  rw [hl]
  have hk : ∃ l, Try.prog.keyLits (n + 2) 170 [i64 ((a : Nat) : Int), i64 ((b : Nat) : Int)] = some l := by
    unfold Program.keyLits
    simp only [Try.underlying170]
    rw [if_pos (by rw [hc]; rfl)]
    obtain ⟨ys, hy⟩ := mapM_ex2 (f := fun i => Try.prog.keyLits (n + 1) 3 (([i64 ((a : Nat) : Int), i64 ((b : Nat) : Int)].drop (i * Try.prog.cellsOf 3)).take (Try.prog.cellsOf 3))) (l := List.range 2) (fun i hi => by
      have hi2 : i < 2 := List.mem_range.1 hi
      rw [c3]
      rcases i with _ | _ | i
      · exact kl_nat ha
      · exact kl_nat hb
      · omega)
    rw [hy]
    exact ⟨_, rfl⟩
  obtain ⟨l, hl2⟩ := hk
  rw [hl2]
  exact ⟨_, rfl⟩
/-- block m is a map that holds trees of the key with the seed n; their rows lie below lim -/
structure Mt (w : World) (m : Nat) (n : Nm) (lim : Nat) : Prop where
  obj : ∃ es c, w.heap[m]? = some (.map es c) ∧ ∀ e ∈ es.toList, ∃ lv t : Nat, lv ≤ 1000000 ∧ t ≤ 1000000 ∧ e.key = kv2 lv t ∧ Ow cN 0 0 w e.val (leavesN n lv t) ∧ ∀ k, e.val.ownBlock = some k → k < lim
structure Mu (w : World) (m : Nat) (n : Nm) (lim lv t : Nat) : Prop where
  mt : Mt w m n lim
  miss : ∀ es c, w.heap[m]? = some (.map es c) → ∀ e ∈ es.toList, e.key ≠ kv2 lv t
theorem Mt.lt {w : World} {m lim : Nat} {n : Nm} (h : Mt w m n lim) : m < w.heap.size := by
  obtain ⟨es, c, h1, _⟩ := h.obj
  exact (Array.getElem?_eq_some_iff.1 h1).1
theorem Mt.relim {w : World} {m lim : Nat} {n : Nm} (h : Mt w m n lim) : Mt w m n w.heap.size := by
  obtain ⟨es, c, h1, h2⟩ := h.obj
  refine ⟨es, c, h1, fun e he => ?_⟩
  obtain ⟨lv, t, a, b, k, o, _⟩ := h2 e he
  exact ⟨lv, t, a, b, k, o, fun i hi => own_lt o.1 hi⟩
theorem Mt.of {w w' : World} {m lim : Nat} {n : Nm} (h : Mt w m n lim) (e : w'.heap[m]? = w.heap[m]?) (hr : ∀ v xs, Ow cN 0 0 w v xs → (∀ k, v.ownBlock = some k → k < lim) → Ow cN 0 0 w' v xs) : Mt w' m n lim := by
  obtain ⟨es, c, h1, h2⟩ := h.obj
  refine ⟨es, c, by rw [e]; exact h1, fun x hx => ?_⟩
  obtain ⟨lv, t, a, b, k, o, hl⟩ := h2 x hx
  exact ⟨lv, t, a, b, k, hr _ _ o hl, hl⟩
theorem Mt.ext {w w' : World} {m lim : Nat} {n : Nm} (h : Mt w m n lim) (e : Ext w w') : Mt w' m n lim := h.of (Below.block e m h.lt) fun v xs o _ => o.ext e
theorem own_triv {w' : World} {lk : Nat} {v : Value} {xs : List Nm} (h : w'.ownsRow lk 24 8 v xs.length (cN.cs xs)) : Ow cN 0 lk w' v xs := ⟨h, fun _ _ => trivial⟩
theorem own_trivL {lo : Nat} {w' : World} {lk : Nat} {v : Value} {xs : List Nm} (h : w'.ownsRow lk 24 8 v xs.length (cN.cs xs)) : Ow cN lo lk w' v xs := ⟨h, fun _ _ => trivial⟩
theorem Mt.kp {w w' : World} {m lim g : Nat} {n : Nm} (h : Mt w m n lim) (k : Kp g w w') (hn : m ≠ g) (hg : lim ≤ g) : Mt w' m n lim :=
  h.of (k.block m hn) fun v xs o hl => own_triv (own_kp o.1 k (fun e => by have := hl g e; omega))
theorem Mt.grown {w w' : World} {m lim : Nat} {n : Nm} {row : Option Nat} (h : Mt w m n lim) (g : w.grownBy w' row) (hn : row ≠ some m) (hr : ∀ k, row = some k → lim ≤ k) : Mt w' m n lim :=
  h.of (g.5 m h.lt (fun e => hn e.symm)) fun v xs o hl => own_triv (own_grown o.1 g (fun k hk e => by have := hl k hk; have := hr k e; omega))
theorem own_neT {w : World} {lo lim : Nat} {e : TypeId} {sz k b : Nat} {v : Value} {xs : List Value} {n : Nm} (h : w.ownsRow lo e sz v k xs) (hb : Mt w b n lim) : v.ownBlock ≠ some b := by
  obtain ⟨_, ⟨rfl, _⟩ | ⟨g, cap, cur, rfl, hg, hc, _⟩⟩ := h
  · simp [Value.ownBlock]
  · intro e'
    simp only [Value.ownBlock, Option.some.injEq] at e'
    subst e'
    obtain ⟨es, c, h1, _⟩ := hb.obj
    rw [h1] at hc; cases hc
theorem Mt.grownB {w w' : World} {m lim lo : Nat} {n : Nm} {v : Value} {b : List UInt8} (h : Mt w m n lim) (o : OwnB w lo v b) (g : w.grownBy w' v.ownBlock) : Mt w' m n lim :=
  h.of (g.5 m h.lt (fun e => own_neT o h e.symm)) fun u xs ou _ => own_triv (own_grown ou.1 g (fun k hk e => own_ne ou.1 o rfl k hk e))
theorem Mt.ne {w : World} {m lim g' : Nat} {n : Nm} (h : Mt w m n lim) (hg : w.heap.size ≤ g') : m ≠ g' := Nat.ne_of_lt (Nat.lt_of_lt_of_le h.lt hg)
theorem Mt.notB {w : World} {m lim : Nat} {n : Nm} (h : Mt w m n lim) (hT : Nat.beq 0 5 = false) : ¬ isB w m := by
  rintro ⟨c, fz, hc⟩
  obtain ⟨es, k, h1, _⟩ := h.obj
  rw [h1] at hc; cases hc
theorem Mt.new {w : World} {m : Nat} {n : Nm} (h : w.heap[m]? = some (.map #[] 0)) : Mt w m n w.heap.size := ⟨⟨#[], 0, h, by simp⟩⟩
theorem Mu.lt {w : World} {m lim lv t : Nat} {n : Nm} (h : Mu w m n lim lv t) : m < w.heap.size := h.mt.lt
theorem Mu.ext {w w' : World} {m lim lv t : Nat} {n : Nm} (h : Mu w m n lim lv t) (e : Ext w w') : Mu w' m n lim lv t := ⟨h.mt.ext e, by rw [Below.block e m h.lt]; exact h.miss⟩
theorem Mu.kp {w w' : World} {m lim g lv t : Nat} {n : Nm} (h : Mu w m n lim lv t) (k : Kp g w w') (hn : m ≠ g) (hg : lim ≤ g) : Mu w' m n lim lv t := ⟨h.mt.kp k hn hg, by rw [k.block m hn]; exact h.miss⟩
theorem Mu.grown {w w' : World} {m lim lv t : Nat} {n : Nm} {row : Option Nat} (h : Mu w m n lim lv t) (g : w.grownBy w' row) (hn : row ≠ some m) (hr : ∀ k, row = some k → lim ≤ k) : Mu w' m n lim lv t := ⟨h.mt.grown g hn hr, by rw [g.5 m h.lt (fun e => hn e.symm)]; exact h.miss⟩
theorem Mu.ne {w : World} {m lim g' lv t : Nat} {n : Nm} (h : Mu w m n lim lv t) (hg : w.heap.size ≤ g') : m ≠ g' := h.mt.ne hg
theorem Mu.notB {w : World} {m lim lv t : Nat} {n : Nm} (h : Mu w m n lim lv t) (hT : Nat.beq 0 5 = false) : ¬ isB w m := h.mt.notB hT
theorem own_neU {w : World} {lo lim lv t : Nat} {e : TypeId} {sz k b : Nat} {v : Value} {xs : List Value} {n : Nm} (h : w.ownsRow lo e sz v k xs) (hb : Mu w b n lim lv t) : v.ownBlock ≠ some b := own_neT h hb.mt
def Mlook (w : World) (m lv t : Nat) (r : Value) : Prop := (Instr.lookup 106 (.map (some m)) (kv2 lv t) false).run Try.prog w = .ok r w
theorem Mt.look {w : World} {m lim lv t : Nat} {n : Nm} (h : Mt w m n lim) (hlv : lv ≤ 1000000) (ht : t ≤ 1000000) : ∃ r, Mlook w m lv t r ∧ ((r = .slice none 0 0 ∧ Mu w m n w.heap.size lv t) ∨ Ow cN 0 0 w r (leavesN n lv t)) := by
  obtain ⟨es, c, h1, h2⟩ := h.obj
  obtain ⟨l, hl⟩ := keyOf2 hlv ht
  have hck := keyed170.check w es.isEmpty hl
  have hu : ∃ k e, Try.prog.underlying 106 = some (.map k e) ∧ k = 170 ∧ e = 45 := ⟨_, _, Try.underlying106, rfl, rfl⟩
  obtain ⟨k, e, hu, rfl, rfl⟩ := hu
  have hkeys : ∀ e ∈ es.toList, ∃ l, keyOf Try.prog 170 e.key = some l := by
    intro e he
    obtain ⟨lv', t', a, b, k, _⟩ := h2 e he
    rw [k]; exact keyOf2 a b
  rcases keyed170.find w hl es.toList hkeys with ⟨k1, k2⟩ | ⟨j, e, k1, k2, k3⟩
  · refine ⟨.slice none 0 0, ?_, .inl ⟨rfl, h.relim, fun es' c' h' => ?_⟩⟩
    · unfold Mlook Instr.lookup
      simp only [Sem.run_bind, run_underlying hu, Result.andThen_ok, MapKept.run_getObj_map h1, Sem.run_pure, hck, k1, Try.zeroValue45]
      rfl
    · rw [h1] at h'
      cases h'
      exact k2
  · obtain ⟨lv', t', a, b, kk, o, _⟩ := h2 e (List.mem_of_getElem? k2)
    have hkey : kv2 lv' t' = kv2 lv t := kk.symm.trans k3
    have hlt : lv' = lv ∧ t' = t := by
      unfold kv2 i64 at hkey
      simp only [Value.agg.injEq, Array.mk.injEq, List.cons.injEq, Value.int.injEq, true_and, and_true] at hkey
      omega
    rw [hlt.1, hlt.2] at o
    refine ⟨e.val, ?_, .inr o⟩
    unfold Mlook Instr.lookup
    simp only [Sem.run_bind, run_underlying hu, Result.andThen_ok, MapKept.run_getObj_map h1, Sem.run_pure, hck, k1]
    rfl
section
variable {ρ : Operand → Value} {w : World} {dst : Option Tmp} {ty : TypeId} {pos : String} {aft : Array Edge} {gd : Option (Nat × Bool)}
theorem R_lookup2 {x y : Operand} {m lv t : Nat} {r : Value} (hx : ρ x = .map (some m)) (hy : ρ y = kv2 lv t) (h : Mlook w m lv t r) :
    (execOp ρ ⟨dst, .lookup 106 x y false, ty, pos, aft, gd⟩).run Try.prog w = .ok (.value r) w := by
  unfold Mlook at h
  simp [execOp, hx, hy, h]
theorem R_slNN {x y : Operand} {a : Addr} {l c : Nat} {t' : TypeId} (hx : ρ x = .slice (some a) l c) (hy : ρ y = .slice none 0 0) : (execOp ρ ⟨dst, .binOp .neq 45 x y t', ty, pos, aft, gd⟩).run Try.prog w = .ok (.value (.bool true)) w := by
  have e : (Op.equalIn Op.maxDepth 45 (.slice (some a) l c) (.slice none 0 0)).run Try.prog w = .ok false w := by
    show (Op.equalIn (Op.maxDepth - 1 + 1) 45 (.slice (some a) l c) (.slice none 0 0)).run Try.prog w = .ok false w
    simp [Op.equalIn, run_underlying Try.underlying45]
  simp [go_sem, hx, hy, binOp, Op.equal, e]
theorem R_slNil {x y : Operand} {t' : TypeId} (hx : ρ x = .slice none 0 0) (hy : ρ y = .slice none 0 0) : (execOp ρ ⟨dst, .binOp .neq 45 x y t', ty, pos, aft, gd⟩).run Try.prog w = .ok (.value (.bool false)) w := by
  have e : (Op.equalIn Op.maxDepth 45 (.slice none 0 0) (.slice none 0 0)).run Try.prog w = .ok true w := by
    show (Op.equalIn (Op.maxDepth - 1 + 1) 45 (.slice none 0 0) (.slice none 0 0)).run Try.prog w = .ok true w
    simp [Op.equalIn, run_underlying Try.underlying45]
  simp [go_sem, hx, hy, binOp, Op.equal, e]
end
theorem fill170 (a b : Int) : Instr.fill (fun i => some (i * 1, 1)) #[.int .i64 0, .int .i64 0] [(0, i64 a), (1, i64 b)] = some [i64 a, i64 b].toArray := by
  simp [Instr.fill, i64, Value.cells]
section
variable {ops : Array Oper} {Q : Exit → Act → World → Prop} {K : Act → World → Prop} {n : Nat} {f : Nat → Value} {w : World} {d : Option Tmp} {ty : TypeId} {pos : String} {aft : Array Edge}
theorem D_mapUp2 {x y z : Operand} {m lim lv t lk : Nat} {nm : Nm} {v : Value} (hx : ov n f x = .map (some m)) (hy : ov n f y = kv2 lv t) (hz : ov n f z = v) (h : Mu w m nm lim lv t) (ho : Ow cN 0 lk w v (leavesN nm lv t)) (hlv : lv ≤ 1000000) (ht : t ≤ 1000000)
    (k : ∀ w', Kp m w w' → Mt w' m nm w'.heap.size → K (E n (upo f d undef)) w') :
    wpO Try.prog ops Q ⟨d, .mapUpdate 106 x y z, ty, pos, aft, none⟩ K (E n f) w := by
  obtain ⟨es, c, h1, h2⟩ := h.mt.obj
  obtain ⟨l, hl⟩ := keyOf2 hlv ht
  have hck := keyed170.check w false hl
  have hu : ∃ k e, Try.prog.underlying 106 = some (.map k e) ∧ k = 170 ∧ e = 45 := ⟨_, _, Try.underlying106, rfl, rfl⟩
  obtain ⟨kt, e, hu, rfl, rfl⟩ := hu
  have hkeys : ∀ e ∈ es.toList, ∃ l, keyOf Try.prog 170 e.key = some l := by
    intro e he
    obtain ⟨lv', t', a, b, k, _⟩ := h2 e he
    rw [k]; exact keyOf2 a b
  have hf : (Instr.findKey 170 (kv2 lv t) es.toList).run Try.prog w = .ok none w := by
    rcases keyed170.find w hl es.toList hkeys with ⟨k1, k2⟩ | ⟨j, e, k1, k2, k3⟩
    · exact k1
    · exact absurd k3 (h.miss es c h1 e (List.mem_of_getElem? k2))
  have hrun : (Instr.mapUpdate 106 (.map (some m)) (kv2 lv t) v).run Try.prog w = .ok () { w with heap := w.heap.setIfInBounds m (.map (es.push { key := kv2 lv t, val := v, born := c }) (c + 1)) } := by
    unfold Instr.mapUpdate
    simp only [Sem.run_bind, run_underlying hu, Result.andThen_ok, MapKept.run_getObj_map h1, hck, hf, MapKept.run_setObj_map _ h1]
  have hkp : Kp m w { w with heap := w.heap.setIfInBounds m (.map (es.push { key := kv2 lv t, val := v, born := c }) (c + 1)) } := ⟨rfl, rfl, rfl, by simp, fun j hj => by simp only [Array.getElem?_setIfInBounds]; rw [if_neg (fun e => hj e.symm)]⟩
  have keep : ∀ u xs, Ow cN 0 0 w u xs → Ow cN 0 0 { w with heap := w.heap.setIfInBounds m (.map (es.push { key := kv2 lv t, val := v, born := c }) (c + 1)) } u xs := fun u xs o => own_triv (own_kp o.1 hkp (own_neT o.1 h.mt))
  refine D_skip (w' := { w with heap := w.heap.setIfInBounds m (.map (es.push { key := kv2 lv t, val := v, born := c }) (c + 1)) }) ?_ (k _ hkp ⟨⟨es.push { key := kv2 lv t, val := v, born := c }, c + 1, ?_, ?_⟩⟩)
  · simp [execOp, hx, hy, hz, hrun]
  · have := h.lt
    simp [this]
  · intro e he
    rw [Array.toList_push] at he
    rcases List.mem_append.1 he with he | he
    · obtain ⟨lv', t', a, b, kk, o, hl⟩ := h2 e he
      exact ⟨lv', t', a, b, kk, keep _ _ o, fun i hi => own_lt (keep _ _ o).1 hi⟩
    · rw [List.mem_singleton] at he
      subst he
      have o0 : Ow cN 0 0 w v (leavesN nm lv t) := ⟨own_lo ho.1 (Nat.zero_le _), fun _ _ => trivial⟩
      exact ⟨lv, t, hlv, ht, rfl, keep _ _ o0, fun i hi => own_lt (keep _ _ o0).1 hi⟩
end
end Go.Proofs.Yteeopgpgbdhmhaa
namespace Go.Proofs.Yteeopgpgbdhmhaa
open Go.RowKit
set_option linter.unusedVariables false
set_option linter.unusedSimpArgs false
attribute [local irreducible] wpList wpO H wpQuiet wpStill Code.wp Exit.then Exit.inBlock bodyPost Code.rounds Calls valid lessV hless num between
set_option maxRecDepth 4000 in
set_option maxHeartbeats 1000000 in
theorem c121 (lk lu : Nat) (v u : Value) (b : List UInt8) (es : List Nm) (w : World) (hlk : lk ≤ w.heap.size) (hbn : b.length ≤ 100000) (hen : es.length ≤ 1000) (hb : OwnB w lk v b) (hu : Ow cN w.heap.size lu w u es) : Calls Try.prog 121 [v, u].toArray w (RetX (fun w' => Gr (Value.ownBlock v) w w') (fun r w' => OwnB w' lk r (b ++ es.flatMap Nm.b) ∧ ∀ k, r.ownBlock = some k → Value.ownBlock v = some k ∨ w.heap.size ≤ k)) := by
  refine enter Try.func121 Try.ntmps121 rfl rfl ?_
  have hE := Gr.refl (Value.ownBlock v) w
  refine wp_seq ?_
  refine W_region ?_
  refine L (D_v (R_assign rfl) ?_)
  refine S_nil ?_
  refine T_tn ?_
  refine wp_seq ?_
  refine wp_seq ?_
  refine W_region ?_
  refine L (D_v (R_assign rfl) ?_)
  refine S_nil ?_
  refine T_tn ?_
  refine wp_block ?_
  refine W_loop (fun mz g W => ∃ (i : Nat) (bb : List UInt8) (r0 : Value), mz = es.length - i ∧ g 0 = r0 ∧ g 1 = u ∧ g 5 = i64 ((i : Nat) : Int) ∧ Gr (Value.ownBlock v) w W ∧ Ow cN w.heap.size lu W u es ∧ OwnB W lk r0 bb ∧ ((∀ k, Value.ownBlock r0 = some k → Value.ownBlock v = some k ∨ w.heap.size ≤ k)) ∧ i ≤ es.length ∧ bb = b ++ (es.take i).flatMap Nm.b) ⟨0, _, _, rfl, rfl, rfl, rfl, hE, hu, hb, (fun k h => .inl h), (Nat.zero_le _), (by simp)⟩ ?_
  rintro mz f3 w3l ⟨i, bb, r0, hm, q0, q1, q5, hE, ou, or0, spr0, hi, hbb⟩
  have hbl : bb.length ≤ b.length + es.length * 8 := by rw [hbb, List.length_append, flat_len, List.length_take]; omega
  refine wp_seq ?_
  refine wp_seq ?_
  refine W_region ?_
  refine L (D_v (R_move q5) ?_)
  refine L (D_v (R_move q1) ?_)
  refine L (D_v (R_len Try.underlying45 rfl ou.ls.1) ?_)
  refine L (D_v (R_lssI rfl rfl) ?_)
  refine S_nil ?_
  refine T_tn ?_
  refine W_if rfl (fun c1 => ?_) (fun c1 => ?_)
  ·
    have lk : i < es.length := by have h9 := of_decide_eq_true c1; omega
    refine wp_skip ?_
    refine T_tn ?_
    refine wp_seq ?_
    refine wp_block ?_
    refine W_region ?_
    refine L (D_v (R_move q0) ?_)
    refine L (D_v (R_move q1) ?_)
    refine L (D_v (R_move q5) ?_)
    refine L (D_v (R_elAddr (i := i) Try.underlying45 Try.sizeOf24 rfl rfl ou.ls.1 (by (try simp only [List.length_take, List.length_drop, List.length_append, List.length_cons, List.length_nil, List.length_replicate, List.length_set, Nm.b_len, be2_len]); omega)) ?_)
    refine L (D_v (R_sliceEl (len := 7) (k := i * 8) Try.underlying24 Try.sizeOf5 ou.ls.1 (lel_lt (C := cN) (k := 0) (getD_some (d := Nm.zero) (by (try simp only [List.length_take, List.length_drop, List.length_append, List.length_cons, List.length_nil, List.length_replicate, List.length_set, Nm.b_len, be2_len]); omega)) (by decide)) rfl) ?_)
    refine L (D_appendB2 elt5 Try.underlying31 rfl rfl or0 (ou.ls.bs (getD_some (d := Nm.zero) (by (try simp only [List.length_take, List.length_drop, List.length_append, List.length_cons, List.length_nil, List.length_replicate, List.length_set, Nm.b_len, be2_len]); omega))) (by (try simp only [List.length_take, List.length_drop, List.length_append, List.length_cons, List.length_nil, List.length_replicate, List.length_set, Nm.b_len, be2_len]); omega) (Nat.le_trans hlk hE.size) (fun v5_5 w5_5 o5_5 g5_5 sv5_5 => ?_))
    have spv5_5 : ∀ k, Value.ownBlock v5_5 = some k → Value.ownBlock v = some k ∨ w.heap.size ≤ k := fun k hk => (sv5_5 k hk).elim (spr0 k) (fun h => .inr (Nat.le_trans hE.size h))
    replace hE := hE.grown g5_5 (spr0)
    replace ou := own_trivL (lo := w.heap.size) (own_grown ou.1 g5_5 (own_ne ou.1 or0 rfl))
    refine L (D_v (R_assign rfl) ?_)
    refine S_nil ?_
    refine T_bn ?_
    refine T_tn ?_
    refine W_region ?_
    refine L (D_v (R_move q5) ?_)
    refine L (D_v (R_addN (m := i) (j := 1) rfl rfl (by (try simp only [List.length_take, List.length_drop, List.length_append, List.length_cons, List.length_nil, List.length_replicate, List.length_set, Nm.b_len, be2_len]); omega)) ?_)
    refine L (D_v (R_assign rfl) ?_)
    refine S_nil ?_
    refine T_tn ?_
    refine ⟨_, _, ?_, rfl, i + 1, _, _, rfl, rfl, q1, rfl, hE, ou, o5_5, spv5_5, ?_, ?_⟩
    all_goals first | omega | exact flatb_next hbb (getD_some lk)
  ·
    obtain rfl : i = es.length := by have h9 := of_decide_eq_false c1; omega
    refine wp_exit ?_
    refine T_te ?_
    refine T_te ?_
    refine T_be ?_
    refine T_tn ?_
    refine wp_seq ?_
    refine W_region ?_
    refine L (D_v (R_move q0) ?_)
    refine L (D_v (R_assign rfl) ?_)
    refine S_nil ?_
    refine T_tn ?_
    refine wp_ret ?_
    refine ret1 (v := r0) rfl rfl ⟨_, rfl, hE, ?_, spr0⟩
    rw [List.take_of_length_le (Nat.le_refl _)] at hbb; rw [← hbb]; exact or0
set_option maxRecDepth 4000 in
set_option maxHeartbeats 1000000 in
theorem c131h (n : Nm) (aM aK lv t : Nat) (a : Addr) (l c : Nat) (w : World) (hTK : Blk w aK ((n).l ++ [i64 (2), .map (some aM)]) 108) (hl : Mlook w aM lv t (.slice (some a) l c)) : Calls Try.prog 131 [.pointer (some ⟨aK, 0, none⟩), i64 ((lv : Nat) : Int), i64 ((t : Nat) : Int)].toArray w (Ret w (.slice (some a) l c)) := by
  refine enter Try.func131 Try.ntmps131 rfl rfl ?_
  have hE := Ext.refl w
  refine wp_seq ?_
  refine W_region ?_
  refine L (D_v (R_assign rfl) ?_)
  refine S_nil ?_
  refine T_tn ?_
  refine wp_seq ?_
  refine wp_seq ?_
  refine W_region ?_
  refine L (D_v (R_move rfl) ?_)
  refine L (D_v (R_nilCheck rfl) ?_)
  refine L (D_v (R_fieldAddr Try.runUnderlying108 rfl Try.sizeOf106 rfl) ?_)
  refine L (D_v (R_load Try.isAgg106 hTK rfl rfl) ?_)
  refine L (D_v (R_move rfl) ?_)
  refine L (D_v (R_move rfl) ?_)
  refine L (D_v (R_buildA (vs := [(0, i64 ((lv : Nat) : Int)), (1, i64 ((t : Nat) : Int))]) (c := [i64 ((lv : Nat) : Int), i64 ((t : Nat) : Int)]) Try.runUnderlying170 Try.sizeOf3 Try.zeroValue170 rfl (fill170 _ _)) ?_)
  refine L (D_v (R_lookup2 (lv := lv) (t := t) rfl rfl hl) ?_)
  refine L (D_v (R_assign rfl) ?_)
  refine S_nil ?_
  refine T_tn ?_
  refine wp_seq ?_
  refine W_region ?_
  refine L (D_v (R_move rfl) ?_)
  refine L (D_v (R_slNN rfl rfl) ?_)
  refine S_nil ?_
  refine T_tn ?_
  refine W_ift rfl ?_
  refine wp_seq ?_
  refine W_region ?_
  refine L (D_v (R_move rfl) ?_)
  refine L (D_v (R_assign rfl) ?_)
  refine S_nil ?_
  refine T_tn ?_
  refine wp_ret ?_
  refine T_tr ?_
  refine ret1 (v := _) rfl rfl ⟨?_, hE⟩
  rfl
set_option maxRecDepth 4000 in
set_option maxHeartbeats 2000000 in
theorem c131m (n : Nm) (aM aK lv t : Nat) (w : World) (hTK : Blk w aK ((n).l ++ [i64 (2), .map (some aM)]) 108) (hM : Mu w aM n w.heap.size lv t) (nKM : aK ≠ aM) (hlv : lv ≤ 1000000) (ht : t ≤ 1000000) (hl : Mlook w aM lv t (.slice none 0 0)) : Calls Try.prog 131 [.pointer (some ⟨aK, 0, none⟩), i64 ((lv : Nat) : Int), i64 ((t : Nat) : Int)].toArray w (RetX (fun w' => Chg aM w w') (fun r w' => Mt w' aM n w'.heap.size ∧ Ow cN 0 0 w' r (leavesN n lv t))) := by
  refine enter Try.func131 Try.ntmps131 rfl rfl ?_
  have hE := Chg.refl aM w
  refine wp_seq ?_
  refine W_region ?_
  refine L (D_v (R_assign rfl) ?_)
  refine S_nil ?_
  refine T_tn ?_
  refine wp_seq ?_
  refine wp_seq ?_
  refine W_region ?_
  refine L (D_v (R_move rfl) ?_)
  refine L (D_v (R_nilCheck rfl) ?_)
  refine L (D_v (R_fieldAddr Try.runUnderlying108 rfl Try.sizeOf106 rfl) ?_)
  refine L (D_v (R_load Try.isAgg106 hTK rfl rfl) ?_)
  refine L (D_v (R_move rfl) ?_)
  refine L (D_v (R_move rfl) ?_)
  refine L (D_v (R_buildA (vs := [(0, i64 ((lv : Nat) : Int)), (1, i64 ((t : Nat) : Int))]) (c := [i64 ((lv : Nat) : Int), i64 ((t : Nat) : Int)]) Try.runUnderlying170 Try.sizeOf3 Try.zeroValue170 rfl (fill170 _ _)) ?_)
  refine L (D_v (R_lookup2 (lv := lv) (t := t) rfl rfl hl) ?_)
  refine L (D_v (R_assign rfl) ?_)
  refine S_nil ?_
  refine T_tn ?_
  refine wp_seq ?_
  refine W_region ?_
  refine L (D_v (R_move rfl) ?_)
  refine L (D_v (R_slNil rfl rfl) ?_)
  refine S_nil ?_
  refine T_tn ?_
  refine W_iff rfl ?_
  refine wp_skip ?_
  refine T_tn ?_
  refine wp_seq ?_
  refine W_region ?_
  refine L (D_makeL (C := cN) (lo := w.heap.size) (l := 32) (c := 32) mk24 Try.underlying45 rfl rfl (by (try simp only [List.length_take, List.length_drop, List.length_append, List.length_cons, List.length_nil, List.length_replicate, List.length_set, Nm.b_len, be2_len]); omega) (by (try simp only [List.length_take, List.length_drop, List.length_append, List.length_cons, List.length_nil, List.length_replicate, List.length_set, Nm.b_len, be2_len]); omega) (by (try simp only [List.length_take, List.length_drop, List.length_append, List.length_cons, List.length_nil, List.length_replicate, List.length_set, Nm.b_len, be2_len]); omega) (fun v4_0 w4_0 o4_0 e4_0 => ?_))
  replace o4_0 := o4_0.low hE.size
  replace hE := hE.trans e4_0
  replace hTK := hTK.ext e4_0
  replace hM := hM.ext e4_0
  refine L (D_v (R_assign rfl) ?_)
  refine S_nil ?_
  refine T_tn ?_
  refine wp_seq ?_
  refine wp_seq ?_
  refine W_region ?_
  refine L (D_v (R_move rfl) ?_)
  refine L (D_v (R_len Try.underlying45 rfl o4_0.ls.1) ?_)
  refine L (D_v (R_move rfl) ?_)
  refine S_nil ?_
  refine T_tn ?_
  refine wp_block ?_
  refine W_loop (fun mz g W => ∃ (es : List Nm) (c : Nat), mz = 32 - c ∧ g 0 = .pointer (some ⟨aK, 0, none⟩) ∧ g 1 = i64 ((lv : Nat) : Int) ∧ g 2 = i64 ((t : Nat) : Int) ∧ g 8 = v4_0 ∧ g 23 = i64 ((((List.replicate 32 Nm.zero)).length : Nat) : Int) ∧ g 24 = i64 ((c : Nat) : Int) ∧ Chg aM w W ∧ Blk W aK ((n).l ++ [i64 (2), .map (some aM)]) 108 ∧ Mu W aM (n) w.heap.size (lv) (t) ∧ Ow cN w.heap.size w.heap.size W v4_0 es ∧ c ≤ 32 ∧ es.length = 32 ∧ es.take c = (leavesN n lv t).take c) ⟨_, 0, rfl, rfl, rfl, rfl, rfl, rfl, rfl, hE, hTK, hM, o4_0, (Nat.zero_le _), (by simp), (by simp)⟩ ?_
  rintro mz f6 w6l ⟨es, c, hm, q0, q1, q2, q8, q23, q24, hE, hK, hM, ov4_0, hc, hl2, ht2⟩
  refine wp_seq ?_
  refine W_region ?_
  refine L (D_v (R_lssI q24 q23) ?_)
  refine S_nil ?_
  refine T_tn ?_
  refine wp_seq ?_
  refine W_if rfl (fun c1 => ?_) (fun c1 => ?_)
  ·
    have lk : c < 32 := by have h1 := of_decide_eq_true c1; rw [List.length_replicate] at h1; omega
    refine wp_skip ?_
    refine T_tn ?_
    refine wp_seq ?_
    refine wp_block ?_
    refine wp_seq ?_
    refine W_region ?_
    refine L (D_v (R_move q24) ?_)
    refine L (D_v (R_assign rfl) ?_)
    refine S_nil ?_
    refine T_tn ?_
    refine W_region ?_
    refine L (D_v (R_move q8) ?_)
    refine L (D_v (R_move rfl) ?_)
    refine L (D_v (R_move q0) ?_)
    refine L (D_v (R_move q1) ?_)
    refine L (D_v (R_move q2) ?_)
    refine L (D_v (R_move rfl) ?_)
    refine L (D_call (R_callF Try.call159 rfl rfl) (c159 (n) aM aK (lv) (t) (c) _ hK) (fun w9_6 e9_6 => ?_))
    replace hE := hE.trans e9_6
    replace hK := hK.ext e9_6
    replace hM := hM.ext e9_6
    replace ov4_0 := ov4_0.ext e9_6
    refine L (D_call (R_callF Try.call163 rfl rfl) (c163 ((keyN n (lv) (t) (c))) _) (fun w9_7 e9_7 => ?_))
    replace hE := hE.trans e9_7
    replace hK := hK.ext e9_7
    replace hM := hM.ext e9_7
    replace ov4_0 := ov4_0.ext e9_7
    refine L (D_v (R_elAddr (i := c) Try.underlying45 Try.sizeOf24 rfl rfl ov4_0.ls.1 (by (try simp only [List.length_take, List.length_drop, List.length_append, List.length_cons, List.length_nil, List.length_replicate, List.length_set, Nm.b_len, be2_len]); omega)) ?_)
    refine L (D_stL (C := cN) (i := c) (c := (onePub (keyN n (lv) (t) (c)))) (by decide) Try.sizeOf24 rfl rfl ov4_0 (Nat.le_refl _) (by (try simp only [List.length_take, List.length_drop, List.length_append, List.length_cons, List.length_nil, List.length_replicate, List.length_set, Nm.b_len, be2_len]); omega) trivial (fun w9_9 o9_9 g9_9 f9_9 => ?_))
    replace hE := hE.grown g9_9 (fun k hk => own_ge ov4_0.1 hk)
    replace hK := hK.grown g9_9 (own_neB ov4_0.1 hK rfl)
    replace hM := hM.grown g9_9 (own_neU ov4_0.1 hM) (fun k hk => own_ge ov4_0.1 hk)
    refine S_nil ?_
    refine T_bn ?_
    refine T_tn ?_
    refine W_region ?_
    refine L (D_v (R_addN (m := c) (j := 1) q24 rfl (by (try simp only [List.length_take, List.length_drop, List.length_append, List.length_cons, List.length_nil, List.length_replicate, List.length_set, Nm.b_len, be2_len]); omega)) ?_)
    refine L (D_v (R_move rfl) ?_)
    refine S_nil ?_
    refine T_tn ?_
    refine ⟨_, _, ?_, rfl, _, c + 1, rfl, q0, q1, q2, q8, q23, rfl, hE, hK, hM, o9_9, ?_, ?_, ?_⟩
    all_goals first | omega | (simp only [List.length_set]; exact hl2) | exact fill_next ht2 (by omega) (leavesN_at n lv t lk)
  ·
    have lk : ¬ c < 32 := by have h1 := of_decide_eq_false c1; rw [List.length_replicate] at h1; omega
    obtain rfl : c = 32 := by omega
    have hes : es = leavesN n lv t := fill_all ht2 (by omega) (by rw [leavesN_len]; omega)
    rw [hes] at ov4_0
    refine wp_exit ?_
    refine T_te ?_
    refine T_te ?_
    refine T_be ?_
    refine T_tn ?_
    refine wp_seq ?_
    refine W_region ?_
    refine L (D_v (R_move q0) ?_)
    refine L (D_v (R_nilCheck rfl) ?_)
    refine L (D_v (R_fieldAddr Try.runUnderlying108 rfl Try.sizeOf106 rfl) ?_)
    refine L (D_v (R_load Try.isAgg106 hK rfl rfl) ?_)
    refine L (D_v (R_move q1) ?_)
    refine L (D_v (R_move q2) ?_)
    refine L (D_v (R_buildA (vs := [(0, i64 ((lv : Nat) : Int)), (1, i64 ((t : Nat) : Int))]) (c := [i64 ((lv : Nat) : Int), i64 ((t : Nat) : Int)]) Try.runUnderlying170 Try.sizeOf3 Try.zeroValue170 rfl (fill170 _ _)) ?_)
    refine L (D_v (R_move q8) ?_)
    have xov4_0 := own_neU ov4_0.1 hM
    refine L (D_mapUp2 (v := v4_0) rfl rfl rfl hM ov4_0 hlv ht (fun w8_8 k8_8 hM => ?_))
    replace hE := hE.kp k8_8 trivial
    replace hK := hK.kp k8_8 nKM
    replace ov4_0 := own_trivL (lo := w.heap.size) (own_kp ov4_0.1 k8_8 xov4_0)
    refine S_nil ?_
    refine T_tn ?_
    refine wp_seq ?_
    refine W_region ?_
    refine L (D_v (R_move q8) ?_)
    refine L (D_v (R_assign rfl) ?_)
    refine S_nil ?_
    refine T_tn ?_
    refine wp_ret ?_
    refine ret1 (v := v4_0) rfl rfl ⟨_, rfl, hE, hM, ⟨own_lo ov4_0.1 (Nat.zero_le _), fun _ _ => trivial⟩⟩
theorem c131 (n : Nm) (aM aK lv t : Nat) (w : World) (hTK : Blk w aK ((n).l ++ [i64 (2), .map (some aM)]) 108) (lim : Nat) (hM : Mt w aM n lim) (nKM : aK ≠ aM) (hlv : lv ≤ 1000000) (ht : t ≤ 1000000) : Calls Try.prog 131 [.pointer (some ⟨aK, 0, none⟩), i64 ((lv : Nat) : Int), i64 ((t : Nat) : Int)].toArray w (RetX (fun w' => Chg aM w w') (fun r w' => Mt w' aM n w'.heap.size ∧ Ow cN 0 0 w' r (leavesN n lv t))) := by
  obtain ⟨r, hl, h | h⟩ := hM.look hlv ht
  · obtain ⟨rfl, hu⟩ := h
    exact c131m n aM aK lv t w hTK hu nKM hlv ht hl
  · have h32 := leavesN_len n lv t
    obtain ⟨_, ⟨rfl, h0⟩ | ⟨g, cap, cur, rfl, _⟩⟩ := h.1
    · omega
    · refine (c131h n aM aK lv t _ _ _ w hTK hl).mono ?_
      rintro e w' ⟨rfl, he⟩
      exact ⟨_, rfl, (Chg.refl aM w).trans he, (hM.ext he).relim, h.ext he⟩
set_option maxRecDepth 4000 in
set_option maxHeartbeats 2000000 in
theorem c129 (n x : Nm) (aM aK lv t j lk : Nat) (v : Value) (b : List UInt8) (w0 : World) (hTK : Blk w0 aK ((n).l ++ [i64 (2), .map (some aM)]) 108) (lim : Nat) (hM : Mt w0 aM n lim) (nKM : aK ≠ aM) (hlv : lv ≤ 1000000) (ht : t ≤ 1000000) (hj : j < 32) (hlk0 : lk ≤ w0.heap.size) (hbn : b.length ≤ 100000) (hb : OwnB w0 lk v b) : Calls Try.prog 129 [.pointer (some ⟨aK, 0, none⟩), v, i64 ((lv : Nat) : Int), i64 ((t : Nat) : Int), i64 ((j : Nat) : Int), x.v].toArray w0 (RetX (fun w' => Gx (Value.ownBlock v) aM w0 w') (fun r w' => Mt w' aM n w'.heap.size ∧ OwnB w' lk r (b ++ partN n lv t j x) ∧ ∀ k, r.ownBlock = some k → Value.ownBlock v = some k ∨ w0.heap.size ≤ k)) := by
  refine enter Try.func129 Try.ntmps129 rfl rfl ?_
  have hE := Ext.refl w0
  refine wp_seq ?_
  refine W_region ?_
  refine L (D_box (c := (x).l) (rfl) (fun aB1_0 w1_0 e1_0 gB1_0 hB1_0 => ?_))
  have lB1_0 := Nat.le_trans hE.size gB1_0
  have nKB1_0 := hTK.ne gB1_0
  have nMB1_0 := hM.ne gB1_0
  replace hE := hE.trans e1_0
  replace hTK := hTK.ext e1_0
  replace hM := hM.ext e1_0
  replace hb := hb.ext e1_0
  refine L (D_v (R_assign rfl) ?_)
  refine S_nil ?_
  refine T_tn ?_
  refine wp_seq ?_
  refine W_region ?_
  refine L (D_v (R_move rfl) ?_)
  refine L (D_v (R_move rfl) ?_)
  refine L (D_v (R_move rfl) ?_)
  refine L (D_callX (R_callF Try.call131 rfl rfl) (c131 n aM aK lv t _ hTK _ hM nKM hlv ht) (fun vt w hp => ?_))
  obtain ⟨hC, hM2, hvt⟩ := hp
  have xv := own_neT hb hM
  have hC0 := Chg.pre hE hC
  replace hTK := hTK.chg hC nKM
  replace hB1_0 := hB1_0.chg hC nMB1_0.symm
  replace hb := OwnB.chg hb hC xv
  have hlk := Nat.le_trans hlk0 hC0.size
  clear hE
  have hE := Gr.refl (Value.ownBlock v) w
  replace hvt := Ow.lev (lo' := w.heap.size) hvt (fun _ _ _ => trivial)
  refine L (D_v (R_move rfl) ?_)
  refine L (D_callE (R_callF Try.call157 rfl rfl) (c157 32 vt ((leavesN n (lv) (t))) (j) _ (by rw [leavesN_len]; omega) (by rw [leavesN_len]; omega) (by rw [leavesN_len]; omega) (hvt.ls.lev fun _ _ _ => trivial)) (fun v2_5 w2_5 e2_5 p2_5 => ?_))
  obtain ⟨q2_5, rfl, o2_5⟩ := p2_5
  have yq2_5_B1_0 : Value.ownBlock q2_5 ≠ some aB1_0 := fun hk => absurd (own_ge o2_5.1 hk) (Nat.not_le.2 hB1_0.lt)
  have zvt_q2_5 := own_apart hvt.1 o2_5.1
  have zq2_5_vt := fun k hk hk2 => zvt_q2_5 k hk2 hk
  replace o2_5 := o2_5.low hE.size
  replace o2_5 := Ow.lev (lo' := w.heap.size) o2_5 (fun _ _ _ => trivial)
  replace hE := hE.trans e2_5
  replace hTK := hTK.ext e2_5
  replace hM2 := hM2.ext e2_5
  replace hB1_0 := hB1_0.ext e2_5
  replace hb := hb.ext e2_5
  replace hvt := hvt.ext e2_5
  refine L (D_v (R_move rfl) ?_)
  refine L (D_v (R_extract rfl rfl) ?_)
  refine L (D_v (R_extract rfl rfl) ?_)
  refine L (D_v (R_assign rfl) ?_)
  refine L (D_v (R_assign rfl) ?_)
  refine S_nil ?_
  refine T_tn ?_
  refine wp_seq ?_
  refine wp_seq ?_
  refine W_held (fun W => Gr (Value.ownBlock v) w W ∧ Blk W aK ((n).l ++ [i64 (2), .map (some aM)]) 108 ∧ Mt W aM (n) w.heap.size ∧ Blk W aB1_0 ((x).l) 24 ∧ OwnB W lk v b ∧ Ow cN w.heap.size w.heap.size W q2_5 (mpath 32 ((leavesN n (lv) (t))) (j)) ∧ True) mixed (fun w3_99 e3_99 => ?_)
  replace hE := hE.trans e3_99
  replace hTK := hTK.ext e3_99
  replace hM2 := hM2.ext e3_99
  replace hB1_0 := hB1_0.ext e3_99
  replace hb := hb.ext e3_99
  replace o2_5 := o2_5.ext e3_99
  refine H_take (i := 0) rfl (by kernel_rfl) (by kernel_rfl) (by kernel_rfl) rfl (pq_then (pq_then pq_body)) ⟨hE, hTK, hM2, hB1_0, hb, o2_5, trivial⟩ rfl (fun w hw => R_move rfl) ?_
  refine H_take (i := 1) rfl (by kernel_rfl) (by kernel_rfl) (by kernel_rfl) rfl (pq_then (pq_then pq_body)) ⟨hE, hTK, hM2, hB1_0, hb, o2_5, trivial⟩ rfl (fun w hw => R_move rfl) ?_
  refine H_take (i := 2) rfl (by kernel_rfl) (by kernel_rfl) (by kernel_rfl) rfl (pq_then (pq_then pq_body)) ⟨hE, hTK, hM2, hB1_0, hb, o2_5, trivial⟩ rfl (fun w hw => R_move rfl) ?_
  refine H_take (i := 3) rfl (by kernel_rfl) (by kernel_rfl) (by kernel_rfl) rfl (pq_then (pq_then pq_body)) ⟨hE, hTK, hM2, hB1_0, hb, o2_5, trivial⟩ rfl (fun w hw => R_move rfl) ?_
  refine H_take (i := 5) rfl (by kernel_rfl) (by kernel_rfl) (by kernel_rfl) rfl (pq_then (pq_then pq_body)) ⟨hE, hTK, hM2, hB1_0, hb, o2_5, trivial⟩ rfl (fun w hw => R_loadA (c := (x).l) Try.isAgg24 Try.sizeOf24 hw.2.2.2.1 rfl rfl rfl) ?_
  refine H_take (i := 7) rfl (by kernel_rfl) (by kernel_rfl) (by kernel_rfl) rfl (pq_then (pq_then pq_body)) ⟨hE, hTK, hM2, hB1_0, hb, o2_5, trivial⟩ rfl (fun w hw => R_move rfl) ?_
  refine H_take (i := 10) rfl (by kernel_rfl) (by kernel_rfl) (by kernel_rfl) rfl (pq_then (pq_then pq_body)) ⟨hE, hTK, hM2, hB1_0, hb, o2_5, trivial⟩ rfl (fun w hw => R_move rfl) ?_
  refine H_op (i := 4) (by kernel_rfl) rfl rfl (D_call (R_callF Try.call159 rfl rfl) (c159 (n) aM aK (lv) (t) (j) _ hTK) (fun w3_4 e3_4 => ?_))
  replace hE := hE.trans e3_4
  replace hTK := hTK.ext e3_4
  replace hM2 := hM2.ext e3_4
  replace hB1_0 := hB1_0.ext e3_4
  replace hb := hb.ext e3_4
  replace o2_5 := o2_5.ext e3_4
  refine ⟨⟨hE, hTK, hM2, hB1_0, hb, o2_5, trivial⟩, ?_⟩
  refine H_op (i := 6) (by kernel_rfl) rfl rfl (D_callE (R_callF Try.call158 rfl rfl) (c158 ((keyN n (lv) (t) (j))) (x) _) (fun v3_6 w3_6 e3_6 p3_6 => ?_))
  have o3_6 := p3_6
  have yv3_6_B1_0 : Value.ownBlock v3_6 ≠ some aB1_0 := fun hk => absurd (own_ge o3_6.1 hk) (Nat.not_le.2 hB1_0.lt)
  have zq2_5_v3_6 := own_apart o2_5.1 o3_6.1
  have zv3_6_q2_5 := fun k hk hk2 => zq2_5_v3_6 k hk2 hk
  replace o3_6 := o3_6.low hE.size
  replace o3_6 := Ow.lev (lo' := w.heap.size) o3_6 (fun _ _ _ => trivial)
  replace hE := hE.trans e3_6
  replace hTK := hTK.ext e3_6
  replace hM2 := hM2.ext e3_6
  replace hB1_0 := hB1_0.ext e3_6
  replace hb := hb.ext e3_6
  replace o2_5 := o2_5.ext e3_6
  refine ⟨⟨hE, hTK, hM2, hB1_0, hb, o2_5, trivial⟩, ?_⟩
  refine H_op (i := 8) (by kernel_rfl) rfl rfl (D_appendL elt24 Try.underlying45 rfl rfl o3_6 (Nat.le_refl _) o2_5.ls (by first | omega | (have h23 := pl23 n x lv t j hj; rw [List.length_append] at h23; omega) | ((try simp only [List.length_append, List.length_cons, List.length_nil, Nm.b_len]); omega)) (by first | omega | (have h23 := pl23 n x lv t j hj; rw [List.length_append] at h23; omega) | ((try simp only [List.length_append, List.length_cons, List.length_nil, Nm.b_len]); omega)) hE.size (fun v3_8 w3_8 o3_8 g3_8 f3_8 sv3_8 => ?_))
  have yv3_8_B1_0 : Value.ownBlock v3_8 ≠ some aB1_0 := fun hk => (sv3_8 _ hk).elim yv3_6_B1_0 (fun h => absurd h (Nat.not_le.2 hB1_0.lt))
  have zq2_5_v3_8 : ∀ k, Value.ownBlock q2_5 = some k → Value.ownBlock v3_8 ≠ some k := fun k hk2 hk => (sv3_8 _ hk).elim (fun h => zq2_5_v3_6 k hk2 h) (fun h => absurd h (Nat.not_le.2 (own_lt o2_5.1 hk2)))
  have zv3_8_q2_5 := fun k hk hk2 => zq2_5_v3_8 k hk2 hk
  replace hE := hE.grown g3_8 (fun k hk => .inr (own_ge o3_6.1 hk))
  replace hTK := hTK.grown g3_8 (own_neB o3_6.1 hTK rfl)
  replace hM2 := hM2.grown g3_8 (own_neT o3_6.1 hM2) (fun k hk => own_ge o3_6.1 hk)
  replace hB1_0 := hB1_0.grown g3_8 (yv3_6_B1_0)
  replace hb := hb.grown g3_8 (own_ne hb o3_6.1 rfl)
  replace o2_5 := o2_5.grown g3_8 (zq2_5_v3_6) f3_8
  refine ⟨⟨hE, hTK, hM2, hB1_0, hb, o2_5, trivial⟩, ?_⟩
  refine H_op (i := 9) (by kernel_rfl) rfl rfl (D_v (R_len Try.underlying45 rfl o3_8.ls.1) ⟨⟨hE, hTK, hM2, hB1_0, hb, o2_5, trivial⟩, ?_⟩)
  refine H_done (by kernel_rfl) ?_
  refine T_tn ?_
  refine wp_block ?_
  refine W_loop (fun mz g W => ∃ (i : Nat) (bb : List UInt8) (r1 : Value), mz = (oneSig (keyN n (lv) (t) (j)) x ++ mpath 32 (leavesN n (lv) (t)) (j)).length - i ∧ g 1 = r1 ∧ g 34 = v3_8 ∧ g 35 = i64 (((((oneSig (keyN n (lv) (t) (j)) x) ++ (mpath 32 ((leavesN n (lv) (t))) (j)))).length : Nat) : Int) ∧ g 36 = i64 ((i : Nat) : Int) ∧ Gr (Value.ownBlock v) w W ∧ Blk W aK ((n).l ++ [i64 (2), .map (some aM)]) 108 ∧ Mt W aM (n) w.heap.size ∧ Ow cN w.heap.size w.heap.size W v3_8 ((oneSig (keyN n (lv) (t) (j)) x) ++ (mpath 32 ((leavesN n (lv) (t))) (j))) ∧ OwnB W lk r1 bb ∧ ((∀ k, Value.ownBlock r1 = some k → Value.ownBlock v = some k ∨ w.heap.size ≤ k)) ∧ i ≤ (oneSig (keyN n (lv) (t) (j)) x ++ mpath 32 (leavesN n (lv) (t)) (j)).length ∧ bb = b ++ ((oneSig (keyN n (lv) (t) (j)) x ++ mpath 32 (leavesN n (lv) (t)) (j)).take i).flatMap Nm.b) ⟨0, _, _, rfl, rfl, rfl, rfl, rfl, hE, hTK, hM2, o3_8, hb, (fun k h => .inl h), (Nat.zero_le _), (by simp)⟩ ?_
  rintro mz f4 w4l ⟨i, bb, r1, hm, q1, q34, q35, q36, hE, hK, hM, ov3_8, or1, spr1, hi, hbb⟩
  have hbl : bb.length ≤ b.length + 184 := by rw [hbb, List.length_append, flat_len, List.length_take]; have h23 := pl23 n x lv t j hj; omega
  refine wp_seq ?_
  refine W_region ?_
  refine L (D_v (R_lssI q36 q35) ?_)
  refine S_nil ?_
  refine T_tn ?_
  refine wp_seq ?_
  refine W_if rfl (fun c1 => ?_) (fun c1 => ?_)
  ·
    have lk : i < (oneSig (keyN n (lv) (t) (j)) x ++ mpath 32 (leavesN n (lv) (t)) (j)).length := by have h9 := of_decide_eq_true c1; omega
    have h23 := pl23 n x lv t j hj
    refine wp_skip ?_
    refine T_tn ?_
    refine wp_seq ?_
    refine wp_block ?_
    refine wp_seq ?_
    refine W_region ?_
    refine L (D_v (R_elAddr (i := i) Try.underlying45 Try.sizeOf24 q34 q36 ov3_8.ls.1 (by first | omega | (have h23 := pl23 n x lv t j hj; rw [List.length_append] at h23; omega) | ((try simp only [List.length_append, List.length_cons, List.length_nil, Nm.b_len]); omega))) ?_)
    refine L (D_v (R_ldL (C := cN) (i := i) (y := ((((oneSig (keyN n (lv) (t) (j)) x) ++ (mpath 32 ((leavesN n (lv) (t))) (j)))).getD (i) Nm.zero)) Try.isAgg24 Try.sizeOf24 rfl ov3_8.ls (getD_some (d := Nm.zero) (by first | omega | (have h23 := pl23 n x lv t j hj; rw [List.length_append] at h23; omega) | ((try simp only [List.length_append, List.length_cons, List.length_nil, Nm.b_len]); omega)))) ?_)
    refine L (D_alloc (c := (Nm.zero).l) Try.zeroValue24 rfl (fun aB6_2 w6_2 e6_2 gB6_2 hB6_2 => ?_))
    have lB6_2 := Nat.le_trans hE.size gB6_2
    have nKB6_2 := hK.ne gB6_2
    have nMB6_2 := hM.ne gB6_2
    have yv3_8_B6_2 : Value.ownBlock v3_8 ≠ some aB6_2 := fun hk => absurd (own_lt ov3_8.1 hk) (Nat.not_lt.2 gB6_2)
    replace hE := hE.trans e6_2
    replace hK := hK.ext e6_2
    replace hM := hM.ext e6_2
    replace ov3_8 := ov3_8.ext e6_2
    replace or1 := or1.ext e6_2
    have xov3_8 := yv3_8_B6_2
    have xor1 := own_neB or1 hB6_2 rfl
    have h0 := hB6_2
    refine L (D_storeA Try.sizeOf24 hB6_2 rfl rfl rfl rfl rfl (l' := (((((oneSig (keyN n (lv) (t) (j)) x) ++ (mpath 32 ((leavesN n (lv) (t))) (j)))).getD (i) Nm.zero)).l) rfl (fun w6_3 k6_3 hB6_2 => ?_))
    have f6_3 := Fb.kp k6_3 (Nat.le_trans (Nat.le_refl _) lB6_2) (Blk.notB h0 rfl)
    replace hE := hE.kp k6_3 lB6_2
    replace hK := hK.kp k6_3 nKB6_2
    replace hM := hM.kp k6_3 nMB6_2 lB6_2
    replace ov3_8 := ov3_8.kp k6_3 xov3_8 f6_3
    replace or1 := or1.kp k6_3 xor1
    refine S_nil ?_
    refine T_tn ?_
    refine W_region ?_
    refine L (D_v (R_move q1) ?_)
    refine L (D_v (R_sliceArr (len := 7) Try.underlying24 Try.sizeOf5 rfl) ?_)
    refine L (D_appendB2 elt5 Try.underlying31 rfl rfl or1 (hB6_2.bs 0 (((((oneSig (keyN n (lv) (t) (j)) x) ++ (mpath 32 ((leavesN n (lv) (t))) (j)))).getD (i) Nm.zero)).b rfl rfl rfl) (by first | omega | (have h23 := pl23 n x lv t j hj; rw [List.length_append] at h23; omega) | ((try simp only [List.length_append, List.length_cons, List.length_nil, Nm.b_len]); omega)) (Nat.le_trans hlk hE.size) (fun v7_2 w7_2 o7_2 g7_2 sv7_2 => ?_))
    have spv7_2 : ∀ k, Value.ownBlock v7_2 = some k → Value.ownBlock v = some k ∨ w.heap.size ≤ k := fun k hk => (sv7_2 k hk).elim (spr1 k) (fun h => .inr (Nat.le_trans hE.size h))
    replace hE := hE.grown g7_2 (spr1)
    replace hK := hK.grown g7_2 (own_neB or1 hK rfl)
    replace hM := hM.grownB or1 g7_2
    replace hB6_2 := hB6_2.grown g7_2 (own_neB or1 hB6_2 rfl)
    replace ov3_8 := own_trivL (lo := w.heap.size) (own_grown ov3_8.1 g7_2 (own_ne ov3_8.1 or1 rfl))
    refine L (D_v (R_assign rfl) ?_)
    refine S_nil ?_
    refine T_bn ?_
    refine T_tn ?_
    refine W_region ?_
    refine L (D_v (R_addN (m := i) (j := 1) q36 rfl (by first | omega | (have h23 := pl23 n x lv t j hj; rw [List.length_append] at h23; omega) | ((try simp only [List.length_append, List.length_cons, List.length_nil, Nm.b_len]); omega))) ?_)
    refine L (D_v (R_move rfl) ?_)
    refine S_nil ?_
    refine T_tn ?_
    refine ⟨_, _, ?_, rfl, i + 1, _, _, rfl, rfl, q34, q35, rfl, hE, hK, hM, ov3_8, o7_2, spv7_2, ?_, ?_⟩
    all_goals first | omega | exact flatb_next hbb (getD_some lk)
  ·
    have hi2 : i = (oneSig (keyN n (lv) (t) (j)) x ++ mpath 32 (leavesN n (lv) (t)) (j)).length := by have h9 := of_decide_eq_false c1; omega
    refine wp_exit ?_
    refine T_te ?_
    refine T_te ?_
    refine T_be ?_
    refine T_tn ?_
    refine wp_seq ?_
    refine W_region ?_
    refine L (D_v (R_move q1) ?_)
    refine L (D_v (R_assign rfl) ?_)
    refine S_nil ?_
    refine T_tn ?_
    refine wp_ret ?_
    refine ret1 (v := r1) rfl rfl ⟨_, rfl, Gx.of hC0 hE, hM.relim, ?_, fun k hk => (spr1 k hk).elim .inl (fun h => .inr (Nat.le_trans hC0.size h))⟩
    rw [hi2, List.take_of_length_le (Nat.le_refl _), List.flatMap_append] at hbb; rw [show b ++ partN n lv t j x = bb from hbb.symm]; exact or1
end Go.Proofs.Yteeopgpgbdhmhaa
namespace Go.Proofs.Yteeopgpgbdhmhaa
open Go.ChangeShapes Go.WideShapes Go.ChangeAt Go.RowKit
set_option linter.unusedVariables false
set_option maxRecDepth 20000
set_option linter.constructorNameAsVariable false
variable {H : Type} {enc : TypeId × Value → H} {w : World} {base : Nat} {sp : Nat → Bool} {held : Bool}
theorem sameS_refl (p : Pv) : sameS p p = true := by simp [sameS]
end Go.Proofs.Yteeopgpgbdhmhaa
namespace Go.Proofs.Yteeopgpgbdhmhaa
open Go.RowKit Go.Lib
set_option linter.unusedVariables false
def okL (x : Vt) (I : Int) : Bool := valid x && (decide (0 ≤ I) && decide (I < 1024))
def sigI (n : Nm) (I : Int) (x : Nm) : List UInt8 := if (decide (0 ≤ I) && decide (I < 1024)) = true then sigN n I.toNat x else []
def sgP (n : Nm) (I : Int) (x : Vt) : Pv := if okL x I = true then (x, sigI n I (nameV x)) else Pv.zero
theorem rng_no {I : Int} (h : (decide (I < 0) || decide (I ≥ 1024)) = true) : (decide (0 ≤ I) && decide (I < 1024)) = false := by
  rcases Bool.or_eq_true_iff.1 h with h | h
  · have := of_decide_eq_true h; rw [decide_eq_false (show ¬ 0 ≤ I by omega)]; rfl
  · have := of_decide_eq_true h; rw [decide_eq_false (show ¬ I < 1024 by omega), Bool.and_false]
theorem rng_yes {I : Int} (h : (decide (I < 0) || decide (I ≥ 1024)) = false) : 0 ≤ I ∧ I < 1024 := by
  simp only [Bool.or_eq_false_iff, decide_eq_false_iff_not] at h; omega
theorem rng_in {f : Nat} (h : f < 1024) : (decide (0 ≤ ((f : Nat) : Int)) && decide (((f : Nat) : Int) < 1024)) = true := by
  rw [decide_eq_true (by omega), decide_eq_true (by omega)]; rfl
theorem sig_no {n x : Nm} {I : Int} (h : (decide (0 ≤ I) && decide (I < 1024)) = false) : sigI n I x = [] := by unfold sigI; rw [if_neg (by rw [h]; decide)]
theorem sig_in (n x : Nm) {f : Nat} (h : f < 1024) : sigI n ((f : Nat) : Int) x = ((([] ++ be2 (IntKind.wrap .u64 ((f : Nat) : Int))) ++ partN n 1 (f / 32) (f % 32) x) ++ partN n 2 0 (f / 32) (mroot 32 (leavesN n 1 (f / 32)))) := by
  unfold sigI
  rw [if_pos (rng_in h), be2_wrap, List.nil_append, List.append_assoc]; rfl
theorem okL_nv {x : Vt} {I : Int} (h : (!valid x) = true) : okL x I = false := by unfold okL; rw [Bool.not_eq_true'] at h; rw [h]; rfl
theorem okL_ni {x : Vt} {I : Int} (h : (!(decide (0 ≤ I) && decide (I < 1024))) = true) : okL x I = false := by unfold okL; rw [Bool.not_eq_true'] at h; rw [h, Bool.and_false]
theorem okL_y {x : Vt} {I : Int} (hv : valid x = true) (h : (!(decide (0 ≤ I) && decide (I < 1024))) = false) : okL x I = true := by unfold okL; rw [Bool.not_eq_false'] at h; rw [h, hv]; rfl
theorem sgP_no {n : Nm} {x : Vt} {I : Int} (h : okL x I = false) : sgP n I x = Pv.zero := by unfold sgP; rw [if_neg (by rw [h]; decide)]
theorem sgP_y {n : Nm} {x : Vt} {I : Int} (h : okL x I = true) : sgP n I x = (x, sigI n I (nameV x)) := by unfold sgP; rw [if_pos h]
section
variable {P : Program} {ops : Array Oper} {Q : Exit → Act → World → Prop} {K : Act → World → Prop} {n : Nat} {f : Nat → Value} {w : World} {d : Option Tmp} {ty : TypeId} {pos : String} {aft : Array Edge}
end
end Go.Proofs.Yteeopgpgbdhmhaa
namespace Go.Proofs.Yteeopgpgbdhmhaa
open Go.RowKit
set_option linter.unusedVariables false
set_option linter.unusedSimpArgs false
attribute [local irreducible] wpList wpO H wpQuiet wpStill Code.wp Exit.then Exit.inBlock bodyPost Code.rounds Calls valid lessV hless num between
set_option maxRecDepth 4000 in
set_option maxHeartbeats 2000000 in
theorem c97 (n : Nm) (aM aK : Nat) (I : Int) (x : Nm) (w : World) (hTK : Blk w aK ((n).l ++ [i64 (2), .map (some aM)]) 108) (lim : Nat) (hM : Mt w aM n lim) (nKM : aK ≠ aM) : Calls Try.prog 97 [.pointer (some ⟨aK, 0, none⟩), i64 I, x.v].toArray w (RetX (fun w' => Chg aM w w') (fun r w' => ∃ q, r = .tuple #[q, .bool (decide (0 ≤ I) && decide (I < 1024))] ∧ OwnB w' w.heap.size q (sigI n I x))) := by
  refine enter Try.func97 Try.ntmps97 rfl rfl ?_
  have hE := Chg.refl aM w
  replace hM := hM.relim
  refine wp_seq ?_
  refine W_region ?_
  refine L (D_box (c := (x).l) (rfl) (fun aB1_0 w1_0 e1_0 gB1_0 hB1_0 => ?_))
  have lB1_0 := Nat.le_trans hE.size gB1_0
  have nKB1_0 := hTK.ne gB1_0
  have nMB1_0 := hM.ne gB1_0
  replace hE := hE.trans e1_0
  replace hTK := hTK.ext e1_0
  replace hM := hM.ext e1_0
  refine L (D_v (R_assign rfl) ?_)
  refine L (D_v (R_assign rfl) ?_)
  refine S_nil ?_
  refine T_tn ?_
  refine wp_seq ?_
  refine wp_seq ?_
  refine W_region ?_
  refine L (D_v (R_move rfl) ?_)
  refine L (D_call (R_callF Try.call128 rfl rfl) (c128 (n) aM aK _ hTK) (fun w2_1 e2_1 => ?_))
  replace hE := hE.trans e2_1
  replace hTK := hTK.ext e2_1
  replace hM := hM.ext e2_1
  replace hB1_0 := hB1_0.ext e2_1
  refine L (D_v (R_not rfl) ?_)
  refine L (D_v (R_move rfl) ?_)
  refine L (D_on rfl rfl (D_v (R_move rfl) ?_))
  refine L (D_on rfl rfl (D_v (R_lssI rfl rfl) ?_))
  refine L (D_v (R_pick rfl rfl rfl) ?_)
  refine L (D_v (R_move rfl) ?_)
  refine L (D_g1 rfl rfl (fun hb => R_move rfl) ?_)
  refine L (D_g1 rfl rfl (fun hb => R_move rfl) ?_)
  refine L (D_g1 rfl rfl (fun hb => R_nilCheck (cgE hb)) ?_)
  refine L (D_g1 rfl rfl (fun hb => R_fieldAddr Try.runUnderlying108 rfl Try.sizeOf3 (cgE hb)) ?_)
  refine L (D_g1 rfl rfl (fun hb => R_load Try.isAgg3 hTK (cgE hb) rfl) ?_)
  refine L (D_gc1 rfl rfl (fun hb => R_callF Try.call98 (mapv1 (cgE hb)) rfl) (fun hb => c98_2 _) (fun w2_13 e2_13 => ?_))
  replace hE := hE.trans e2_13
  replace hTK := hTK.ext e2_13
  replace hM := hM.ext e2_13
  replace hB1_0 := hB1_0.ext e2_13
  refine L (D_g1 rfl rfl (fun hb => R_geqI (cgE hb) (cgE hb)) ?_)
  refine L (D_v (R_pickO rfl rfl rfl) ?_)
  refine S_nil ?_
  refine T_tn ?_
  refine W_if rfl (fun c1 => ?_) (fun c1 => ?_)
  ·
    have hout : (decide (0 ≤ I) && decide (I < 1024)) = false := rng_no c1
    refine wp_seq ?_
    refine W_region ?_
    refine L (D_v (R_assign rfl) ?_)
    refine L (D_v (R_assign rfl) ?_)
    refine S_nil ?_
    refine T_tn ?_
    refine wp_ret ?_
    refine T_tr ?_
    refine ret2 (v := .slice none 0 0) (v2 := .bool false) rfl rfl rfl ⟨_, rfl, hE, .slice none 0 0, ?_, ?_⟩
    · rw [hout]
    · rw [sig_no hout]; exact OwnB.nil _ _
  ·
    have hin := rng_yes c1
    obtain ⟨f, rfl⟩ : ∃ f : Nat, I = ((f : Nat) : Int) := ⟨I.toNat, (Int.toNat_of_nonneg hin.1).symm⟩
    have hf : f < 1024 := by omega
    refine wp_skip ?_
    refine T_tn ?_
    refine wp_seq ?_
    refine W_region ?_
    refine L (D_v (R_move rfl) ?_)
    refine L (D_v (R_conv Try.runUnderlying3 Try.runUnderlying36 rfl) ?_)
    refine L (D_callE (R_callF Try.call86 rfl rfl) (c86_2 (Value.slice none 0 0) ([]) _ _ (OwnB.nil _ 0).bs (by (try simp only [List.length_take, List.length_drop, List.length_append, List.length_cons, List.length_nil, List.length_replicate, List.length_set, Nm.b_len, be2_len]); omega)) (fun v3_2 w3_2 e3_2 p3_2 => ?_))
    have o3_2 := p3_2
    replace o3_2 := o3_2.lo hE.size
    replace hE := hE.trans e3_2
    replace hTK := hTK.ext e3_2
    replace hM := hM.ext e3_2
    replace hB1_0 := hB1_0.ext e3_2
    refine L (D_v (R_assign rfl) ?_)
    refine S_nil ?_
    refine T_tn ?_
    refine wp_seq ?_
    refine W_region ?_
    refine L (D_v (R_move rfl) ?_)
    refine L (D_v (R_move rfl) ?_)
    refine L (D_v (R_move rfl) ?_)
    refine L (D_v (R_quoN (m := f) (j := 32) rfl rfl (by decide) (by (try simp only [List.length_take, List.length_drop, List.length_append, List.length_cons, List.length_nil, List.length_replicate, List.length_set, Nm.b_len, be2_len]); omega)) ?_)
    refine L (D_v (R_move rfl) ?_)
    refine L (D_v (R_remN (m := f) (j := 32) rfl rfl (by decide) (by (try simp only [List.length_take, List.length_drop, List.length_append, List.length_cons, List.length_nil, List.length_replicate, List.length_set, Nm.b_len, be2_len]); omega)) ?_)
    refine L (D_v (R_loadA (c := (x).l) Try.isAgg24 Try.sizeOf24 hB1_0 rfl rfl rfl) ?_)
    refine L (D_callX (R_callF Try.call129 rfl rfl) (c129 (n) (x) aM aK (1) ((f / 32)) ((f % 32)) w.heap.size v3_2 (([] ++ be2 (IntKind.wrap .u64 ((f : Nat) : Int)))) _ hTK _ hM nKM (by omega) (by omega) (by omega) hE.size (by simp only [List.length_append, List.length_nil, be2_len]; first | omega | (have h84 := partN_len n 1 (f / 32) (j := f % 32) x (by omega); omega)) o3_2) (fun v4_7 w4_7 p4_7 => ?_))
    obtain ⟨e4_7, hM4_7, o4_7, sp4_7⟩ := p4_7
    replace hE := hE.gx e4_7 (fun k hk => own_ge o3_2 hk)
    replace hTK := hTK.gx e4_7 nKM (own_neB o3_2 hTK rfl)
    replace hB1_0 := hB1_0.gx e4_7 nMB1_0.symm (own_neB o3_2 hB1_0 rfl)
    refine L (D_v (R_assign rfl) ?_)
    refine S_nil ?_
    refine T_tn ?_
    refine wp_seq ?_
    refine wp_seq ?_
    refine W_region ?_
    refine L (D_v (R_move rfl) ?_)
    refine L (D_v (R_nilCheck rfl) ?_)
    refine L (D_v (R_fieldAddr Try.runUnderlying108 rfl Try.sizeOf3 rfl) ?_)
    refine L (D_v (R_load Try.isAgg3 hTK rfl rfl) ?_)
    refine L (D_v (R_cast (v' := .bool true) (R_eqlI rfl rfl) rfl) ?_)
    refine S_nil ?_
    refine T_tn ?_
    refine W_ift rfl ?_
    refine W_region ?_
    refine L (D_v (R_move rfl) ?_)
    refine L (D_v (R_move rfl) ?_)
    refine L (D_v (R_move rfl) ?_)
    refine L (D_v (R_quoN (m := f) (j := 32) rfl rfl (by decide) (by (try simp only [List.length_take, List.length_drop, List.length_append, List.length_cons, List.length_nil, List.length_replicate, List.length_set, Nm.b_len, be2_len]); omega)) ?_)
    refine L (D_v (R_move rfl) ?_)
    refine L (D_v (R_move rfl) ?_)
    refine L (D_v (R_quoN (m := f) (j := 32) rfl rfl (by decide) (by (try simp only [List.length_take, List.length_drop, List.length_append, List.length_cons, List.length_nil, List.length_replicate, List.length_set, Nm.b_len, be2_len]); omega)) ?_)
    refine L (D_callX (R_callF Try.call131 rfl rfl) (c131 (n) aM aK (1) ((f / 32)) _ hTK _ hM4_7 nKM (by omega) (by omega)) (fun v6_7 w6_7 p6_7 => ?_))
    obtain ⟨e6_7, hM6_7, o6_7⟩ := p6_7
    replace hE := hE.chg e6_7
    have xo4_7 := own_neT o4_7 hM4_7
    replace hTK := hTK.chg e6_7 nKM
    replace o4_7 := OwnB.chg o4_7 e6_7 xo4_7
    replace o6_7 := Ow.lev (lo' := w.heap.size) o6_7 (fun _ _ _ => trivial)
    refine L (D_call (R_callF Try.call130 rfl rfl) (c130 32 v6_7 ((leavesN n (1) ((f / 32)))) _ (by rw [leavesN_len]; omega) (by rw [leavesN_len]; omega) (by rw [leavesN_len]; omega) (o6_7.ls.lev fun _ _ _ => trivial)) (fun w6_8 e6_8 => ?_))
    replace hE := hE.trans e6_8
    replace hTK := hTK.ext e6_8
    replace hM6_7 := hM6_7.ext e6_8
    replace o4_7 := o4_7.ext e6_8
    replace o6_7 := o6_7.ext e6_8
    refine L (D_callX (R_callF Try.call129 rfl rfl) (c129 (n) ((mroot 32 ((leavesN n (1) ((f / 32)))))) aM aK (2) (0) ((f / 32)) w.heap.size v4_7 ((([] ++ be2 (IntKind.wrap .u64 ((f : Nat) : Int))) ++ partN n (1) ((f / 32)) ((f % 32)) (x))) _ hTK _ hM6_7 nKM (by omega) (by omega) (by omega) hE.size (by simp only [List.length_append, List.length_nil, be2_len]; first | omega | (have h84 := partN_len n 1 (f / 32) (j := f % 32) x (by omega); omega)) o4_7) (fun v6_9 w6_9 p6_9 => ?_))
    obtain ⟨e6_9, hM6_9, o6_9, sp6_9⟩ := p6_9
    replace hE := hE.gx e6_9 (fun k hk => own_ge o4_7 hk)
    replace hTK := hTK.gx e6_9 nKM (own_neB o4_7 hTK rfl)
    refine L (D_v (R_assign rfl) ?_)
    refine S_nil ?_
    refine T_tn ?_
    refine wp_seq ?_
    refine W_region ?_
    refine L (D_v (R_move rfl) ?_)
    refine L (D_v (R_assign rfl) ?_)
    refine L (D_v (R_assign rfl) ?_)
    refine S_nil ?_
    refine T_tn ?_
    refine wp_ret ?_
    refine ret2 (v := v6_9) (v2 := .bool true) rfl rfl rfl ⟨_, rfl, hE, v6_9, ?_, ?_⟩
    · rw [rng_in hf]
    · rw [sig_in n x hf]; exact o6_9
set_option maxRecDepth 4000 in
set_option maxHeartbeats 1000000 in
theorem c59 (n : Nm) (aM aK : Nat) (I : Int) (x : Vt) (w : World) (hTK : Blk w aK ((n).l ++ [i64 (2), .map (some aM)]) 108) (lim : Nat) (hM : Mt w aM n lim) (nKM : aK ≠ aM) : Calls Try.prog 59 [.pointer (some ⟨aK, 0, none⟩), i64 I, x.v].toArray w (RetX (fun w' => Chg aM w w') (fun r w' => ∃ y : Sg, r = .tuple #[y.v, .bool (okL x I)] ∧ y.p = sgP n I x ∧ y.okf 0 w')) := by
  refine enter Try.func59 Try.ntmps59 rfl rfl ?_
  have hE := Chg.refl aM w
  replace hM := hM.relim
  refine wp_seq ?_
  refine W_region ?_
  refine L (D_box (c := (x).l) (rfl) (fun aB1_0 w1_0 e1_0 gB1_0 hB1_0 => ?_))
  have lB1_0 := Nat.le_trans hE.size gB1_0
  have nKB1_0 := hTK.ne gB1_0
  have nMB1_0 := hM.ne gB1_0
  replace hE := hE.trans e1_0
  replace hTK := hTK.ext e1_0
  replace hM := hM.ext e1_0
  refine L (D_alloc (c := (Sg.zero).l) Try.zeroValue53 rfl (fun aB1_1 w1_1 e1_1 gB1_1 hB1_1 => ?_))
  have lB1_1 := Nat.le_trans hE.size gB1_1
  have nKB1_1 := hTK.ne gB1_1
  have nMB1_1 := hM.ne gB1_1
  have nB1_0B1_1 := hB1_0.ne gB1_1
  replace hE := hE.trans e1_1
  replace hTK := hTK.ext e1_1
  replace hM := hM.ext e1_1
  replace hB1_0 := hB1_0.ext e1_1
  refine L (D_v (R_assign rfl) ?_)
  refine S_nil ?_
  refine T_tn ?_
  refine wp_seq ?_
  refine wp_seq ?_
  refine W_region ?_
  refine L (D_v (R_loadA (c := (x).l) Try.isAgg26 Try.sizeOf26 hB1_0 rfl rfl rfl) ?_)
  refine L (D_call (R_callF Try.call26 rfl rfl) (c26 (x) _ ) (fun w2_1 e2_1 => ?_))
  replace hE := hE.trans e2_1
  replace hTK := hTK.ext e2_1
  replace hM := hM.ext e2_1
  replace hB1_0 := hB1_0.ext e2_1
  replace hB1_1 := hB1_1.ext e2_1
  refine L (D_v (R_not rfl) ?_)
  refine S_nil ?_
  refine T_tn ?_
  refine W_if rfl (fun c1 => ?_) (fun c1 => ?_)
  ·
    have hok : okL x I = false := okL_nv c1
    refine wp_seq ?_
    refine W_region ?_
    refine L (D_v (R_buildS (c := Sg.zero.l) Try.runUnderlying53 places53 Try.zeroValue53 rfl rfl) ?_)
    have h0 := hB1_1
    refine L (D_storeA Try.sizeOf53 hB1_1 rfl rfl rfl rfl rfl (l' := (Sg.zero).l) rfl (fun w3_1 k3_1 hB1_1 => ?_))
    replace hE := hE.kpo k3_1 lB1_1
    replace hTK := hTK.kp k3_1 nKB1_1
    replace hM := hM.kp k3_1 nMB1_1 lB1_1
    refine L (D_v (R_assign rfl) ?_)
    refine S_nil ?_
    refine T_tn ?_
    refine wp_ret ?_
    refine T_tr ?_
    refine retct (c := (Sg.zero).l) (v2 := .bool false) rfl rfl rfl Try.isAgg53 Try.sizeOf53 hB1_1 rfl rfl ⟨_, rfl, hE, ?_⟩
    rw [hok]; exact ⟨Sg.zero, rfl, (sgP_no hok).symm, Sg.okz 0 _⟩
  ·
    have hv : valid x = true := by simpa using c1
    have hw59 := hE.size
    refine wp_skip ?_
    refine T_tn ?_
    refine wp_seq ?_
    refine W_region ?_
    refine L (D_v (R_move rfl) ?_)
    refine L (D_v (R_move rfl) ?_)
    refine L (D_v (R_loadA (c := (x).l) Try.isAgg26 Try.sizeOf26 hB1_0 rfl rfl rfl) ?_)
    refine L (D_call (R_callF Try.call36 rfl rfl) (c36 (x) _) (fun w3_3 e3_3 => ?_))
    replace hE := hE.trans e3_3
    replace hTK := hTK.ext e3_3
    replace hM := hM.ext e3_3
    replace hB1_0 := hB1_0.ext e3_3
    replace hB1_1 := hB1_1.ext e3_3
    refine L (D_callX (R_callF Try.call97 rfl rfl) (c97 (n) aM aK (I) ((nameV x)) _ hTK _ hM nKM) (fun v3_4 w3_4 p3_4 => ?_))
    obtain ⟨e3_4, q3_4, rfl, o3_4⟩ := p3_4
    have hsz := hE.size
    replace hE := hE.chg e3_4
    replace hTK := hTK.chg e3_4 nKM
    replace hB1_0 := hB1_0.chg e3_4 nMB1_0.symm
    replace hB1_1 := hB1_1.chg e3_4 nMB1_1.symm
    have hq := o3_4
    replace o3_4 := OwnB.lo o3_4 hsz
    refine L (D_v (R_move rfl) ?_)
    refine L (D_v (R_extract rfl rfl) ?_)
    refine L (D_v (R_extract rfl rfl) ?_)
    refine L (D_v (R_assign rfl) ?_)
    refine L (D_v (R_assign rfl) ?_)
    refine S_nil ?_
    refine T_tn ?_
    refine wp_seq ?_
    refine wp_seq ?_
    refine W_region ?_
    refine L (D_v (R_move rfl) ?_)
    refine L (D_v (R_not rfl) ?_)
    refine S_nil ?_
    refine T_tn ?_
    refine W_if rfl (fun c2 => ?_) (fun c2 => ?_)
    ·
      have hok : okL x I = false := okL_ni c2
      refine wp_seq ?_
      refine W_region ?_
      refine L (D_v (R_buildS (c := Sg.zero.l) Try.runUnderlying53 places53 Try.zeroValue53 rfl rfl) ?_)
      have h0 := hB1_1
      refine L (D_storeA Try.sizeOf53 hB1_1 rfl rfl rfl rfl rfl (l' := (Sg.zero).l) rfl (fun w5_1 k5_1 hB1_1 => ?_))
      replace hE := hE.kpo k5_1 lB1_1
      replace hTK := hTK.kp k5_1 nKB1_1
      refine L (D_v (R_assign rfl) ?_)
      refine S_nil ?_
      refine T_tn ?_
      refine wp_ret ?_
      refine T_tr ?_
      refine retct (c := (Sg.zero).l) (v2 := .bool false) rfl rfl rfl Try.isAgg53 Try.sizeOf53 hB1_1 rfl rfl ⟨_, rfl, hE, ?_⟩
      rw [hok]; exact ⟨Sg.zero, rfl, (sgP_no hok).symm, Sg.okz 0 _⟩
    ·
      have hok : okL x I = true := okL_y hv c2
      refine wp_skip ?_
      refine T_tn ?_
      refine wp_seq ?_
      refine W_region ?_
      refine L (D_v (R_loadA (c := (x).l) Try.isAgg26 Try.sizeOf26 hB1_0 rfl rfl rfl) ?_)
      refine L (D_v (R_move rfl) ?_)
      have k5_2 : Sg.okf w.heap.size w3_4 (mkSg (x) q3_4 (sigI n (I) ((nameV x)))) := mkSg_ok _ (Bf.own o3_4)
      refine L (D_v (R_buildS (vs := [(0, .agg (x).l.toArray), (1, q3_4)]) (c := (mkSg (x) q3_4 (sigI n (I) ((nameV x)))).l) Try.runUnderlying53 places53 Try.zeroValue53 (mapp2 rfl rfl) (fill53 _ o3_4.bs)) ?_)
      have xo3_4 := own_neB o3_4 hB1_1 rfl
      have h0 := hB1_1
      refine L (D_storeA Try.sizeOf53 hB1_1 rfl rfl rfl rfl rfl (l' := ((mkSg (x) q3_4 (sigI n (I) ((nameV x))))).l) rfl (fun w5_3 k5_3 hB1_1 => ?_))
      have f5_3 := Fb.kp k5_3 (Nat.le_trans (Nat.le_refl _) lB1_1) (Blk.notB h0 rfl)
      replace hE := hE.kpo k5_3 lB1_1
      replace hTK := hTK.kp k5_3 nKB1_1
      replace hB1_0 := hB1_0.kp k5_3 nB1_0B1_1
      replace o3_4 := o3_4.kp k5_3 xo3_4
      replace k5_2 := k5_2.fb f5_3
      refine L (D_v (R_assign rfl) ?_)
      refine S_nil ?_
      refine T_tn ?_
      refine wp_ret ?_
      refine retct (c := ((mkSg (x) q3_4 (sigI n (I) ((nameV x))))).l) (v2 := .bool true) rfl rfl rfl Try.isAgg53 Try.sizeOf53 hB1_1 rfl rfl ⟨_, rfl, hE, ?_⟩
      rw [hok]; exact ⟨(mkSg (x) q3_4 (sigI n (I) ((nameV x)))), rfl, (sgP_y hok).symm, mkSg_ok _ (Bf.own o3_4)⟩
set_option maxRecDepth 4000 in
set_option maxHeartbeats 1000000 in
theorem c60t (n : Nm) (w : World) : Calls Try.prog 60 [n.v, i64 2].toArray w (RetE w fun r w' => ∃ g m, r = .pointer (some ⟨g, 0, none⟩) ∧ w.heap.size ≤ g ∧ w.heap.size ≤ m ∧ g ≠ m ∧ Blk w' g ((n).l ++ [i64 (2), .map (some m)]) 108 ∧ Mt w' m n w'.heap.size) := by
  refine enter Try.func60 Try.ntmps60 rfl rfl ?_
  have hE := Ext.refl w
  refine wp_seq ?_
  refine W_region ?_
  refine L (D_box (c := (n).l) (rfl) (fun aB1_0 w1_0 e1_0 gB1_0 hB1_0 => ?_))
  have lB1_0 := Nat.le_trans hE.size gB1_0
  replace hE := hE.trans e1_0
  refine L (D_v (R_assign rfl) ?_)
  refine S_nil ?_
  refine T_tn ?_
  refine wp_seq ?_
  refine wp_seq ?_
  refine W_region ?_
  refine L (D_v (R_move rfl) ?_)
  refine L (D_call (R_callF Try.call98 rfl rfl) (c98_2 _) (fun w2_1 e2_1 => ?_))
  replace hE := hE.trans e2_1
  replace hB1_0 := hB1_0.ext e2_1
  refine L (D_v (R_cast (v' := .bool false) (R_eqlI rfl rfl) rfl) ?_)
  refine S_nil ?_
  refine T_tn ?_
  refine W_iff rfl ?_
  refine wp_skip ?_
  refine T_tn ?_
  refine wp_seq ?_
  refine W_region ?_
  refine L (D_v (R_loadA (c := (n).l) Try.isAgg24 Try.sizeOf24 hB1_0 rfl rfl rfl) ?_)
  refine L (D_v (R_move rfl) ?_)
  refine L (D_makeMap (fun aM3_2 w3_2 e3_2 gM3_2 zM3_2 => ?_))
  have hM3_2 := Mt.new (n := n) zM3_2
  have lM3_2 := Nat.le_trans hE.size gM3_2
  have nB1_0M3_2 := hB1_0.ne gM3_2
  replace hE := hE.trans e3_2
  replace hB1_0 := hB1_0.ext e3_2
  refine L (D_v (R_buildS (vs := [(0, .agg (n).l.toArray), (1, i64 (2)), (2, .map (some aM3_2))]) (c := (n).l ++ [i64 (2), .map (some aM3_2)]) Try.runUnderlying108 places108 Try.zeroValue108 rfl (fill108 _ _ _)) ?_)
  refine L (D_box (c := (n).l ++ [i64 (2), .map (some aM3_2)]) (rfl) (fun aB3_4 w3_4 e3_4 gB3_4 hB3_4 => ?_))
  have lB3_4 := Nat.le_trans hE.size gB3_4
  have nB1_0B3_4 := hB1_0.ne gB3_4
  have nM3_2B3_4 := hM3_2.ne gB3_4
  replace hE := hE.trans e3_4
  replace hB1_0 := hB1_0.ext e3_4
  replace hM3_2 := hM3_2.ext e3_4
  refine L (D_v (R_assign rfl) ?_)
  refine S_nil ?_
  refine T_tn ?_
  refine wp_ret ?_
  refine ret1 (v := _) rfl rfl ⟨_, rfl, hE, ?_⟩
  exact ⟨aB3_4, aM3_2, rfl, lB3_4, lM3_2, nM3_2B3_4.symm, hB3_4, hM3_2.relim⟩
set_option maxRecDepth 4000 in
set_option maxHeartbeats 2000000 in
theorem c53 (n : Nm) (I : Int) (x : Vt) (w : World) : Calls Try.prog 53 [n.v, i64 I, x.v].toArray w (RetE w fun r w' => ∃ y : Sg, r = .tuple #[y.v, .bool (okL x I)] ∧ y.p = sgP n I x ∧ y.okf 0 w') := by
  refine enter Try.func53 Try.ntmps53 rfl rfl ?_
  have hE := Ext.refl w
  refine wp_seq ?_
  refine W_region ?_
  refine L (D_box (c := (n).l) (rfl) (fun aB1_0 w1_0 e1_0 gB1_0 hB1_0 => ?_))
  have lB1_0 := Nat.le_trans hE.size gB1_0
  replace hE := hE.trans e1_0
  refine L (D_box (c := (x).l) (rfl) (fun aB1_1 w1_1 e1_1 gB1_1 hB1_1 => ?_))
  have lB1_1 := Nat.le_trans hE.size gB1_1
  have nB1_0B1_1 := hB1_0.ne gB1_1
  replace hE := hE.trans e1_1
  replace hB1_0 := hB1_0.ext e1_1
  refine L (D_alloc (c := (Sg.zero).l) Try.zeroValue53 rfl (fun aB1_2 w1_2 e1_2 gB1_2 hB1_2 => ?_))
  have lB1_2 := Nat.le_trans hE.size gB1_2
  have nB1_0B1_2 := hB1_0.ne gB1_2
  have nB1_1B1_2 := hB1_1.ne gB1_2
  replace hE := hE.trans e1_2
  replace hB1_0 := hB1_0.ext e1_2
  replace hB1_1 := hB1_1.ext e1_2
  refine L (D_v (R_assign rfl) ?_)
  refine S_nil ?_
  refine T_tn ?_
  refine wp_seq ?_
  refine W_held (fun W => Ext w W ∧ Blk W aB1_0 ((n).l) 24 ∧ Blk W aB1_1 ((x).l) 26 ∧ True) mixed (fun w2_99 e2_99 => ?_)
  replace hE := hE.trans e2_99
  replace hB1_0 := hB1_0.ext e2_99
  replace hB1_1 := hB1_1.ext e2_99
  replace hB1_2 := hB1_2.ext e2_99
  refine H_take (i := 0) rfl (by kernel_rfl) (by kernel_rfl) (by kernel_rfl) rfl (pq_then pq_body) ⟨hE, hB1_0, hB1_1, trivial⟩ rfl (fun w hw => R_loadA (c := (n).l) Try.isAgg24 Try.sizeOf24 hw.2.1 rfl rfl rfl) ?_
  refine H_take (i := 2) rfl (by kernel_rfl) (by kernel_rfl) (by kernel_rfl) rfl (pq_then pq_body) ⟨hE, hB1_0, hB1_1, trivial⟩ rfl (fun w hw => R_move rfl) ?_
  refine H_take (i := 3) rfl (by kernel_rfl) (by kernel_rfl) (by kernel_rfl) rfl (pq_then pq_body) ⟨hE, hB1_0, hB1_1, trivial⟩ rfl (fun w hw => R_loadA (c := (x).l) Try.isAgg26 Try.sizeOf26 hw.2.2.1 rfl rfl rfl) ?_
  refine H_op (i := 1) (by kernel_rfl) rfl rfl (D_callE (R_callF Try.call60 rfl rfl) (c60t (n) _) (fun v2_1 w2_1 e2_1 p2_1 => ?_))
  obtain ⟨aK2_1, aM2_1, rfl, gK2_1, gM2_1, nK2_1M2_1, hK2_1, hM2_1⟩ := p2_1
  have lK2_1 := Nat.le_trans hE.size gK2_1
  have nB1_0K2_1 := hB1_0.ne gK2_1
  have nB1_1K2_1 := hB1_1.ne gK2_1
  have nB1_2K2_1 := hB1_2.ne gK2_1
  have lM2_1 := Nat.le_trans hE.size gM2_1
  have nB1_0M2_1 := hB1_0.ne gM2_1
  have nB1_1M2_1 := hB1_1.ne gM2_1
  have nB1_2M2_1 := hB1_2.ne gM2_1
  replace hE := hE.trans e2_1
  replace hB1_0 := hB1_0.ext e2_1
  replace hB1_1 := hB1_1.ext e2_1
  replace hB1_2 := hB1_2.ext e2_1
  refine ⟨⟨hE, hB1_0, hB1_1, trivial⟩, ?_⟩
  refine H_op (i := 4) (by kernel_rfl) rfl rfl (D_callX (R_callF Try.call59 rfl rfl) (c59 (n) aM2_1 aK2_1 (I) (x) _ hK2_1 _ hM2_1 nK2_1M2_1) (fun v2_4 w2_4 p2_4 => ?_))
  obtain ⟨e2_4, y2_4, rfl, py2_4, k2_4⟩ := p2_4
  replace hE := hE.chg e2_4 lM2_1
  replace hB1_0 := hB1_0.chg e2_4 nB1_0M2_1
  replace hB1_1 := hB1_1.chg e2_4 nB1_1M2_1
  replace hB1_2 := hB1_2.chg e2_4 nB1_2M2_1
  replace hK2_1 := hK2_1.chg e2_4 nK2_1M2_1
  refine ⟨⟨hE, hB1_0, hB1_1, trivial⟩, ?_⟩
  refine H_take (i := 5) rfl (by kernel_rfl) (by kernel_rfl) (by kernel_rfl) rfl (pq_then pq_body) ⟨hE, hB1_0, hB1_1, trivial⟩ rfl (fun w hw => R_extract rfl rfl) ?_
  refine H_take (i := 6) rfl (by kernel_rfl) (by kernel_rfl) (by kernel_rfl) rfl (pq_then pq_body) ⟨hE, hB1_0, hB1_1, trivial⟩ rfl (fun w hw => R_extract rfl rfl) ?_
  have h0 := hB1_2
  refine H_op (i := 7) (by kernel_rfl) rfl rfl (D_storeA Try.sizeOf53 hB1_2 rfl rfl rfl rfl rfl (l' := (y2_4).l) rfl (fun w2_7 k2_7 hB1_2 => ?_))
  have f2_7 := Fb.kp k2_7 (Nat.le_trans (Nat.le_refl _) lB1_2) (Blk.notB h0 rfl)
  replace hE := hE.kp k2_7 lB1_2
  replace hB1_0 := hB1_0.kp k2_7 nB1_0B1_2
  replace hB1_1 := hB1_1.kp k2_7 nB1_1B1_2
  replace k2_4 := k2_4.fb (Fb.kp k2_7 (Nat.zero_le _) (Blk.notB h0 rfl))
  refine ⟨⟨hE, hB1_0, hB1_1, trivial⟩, ?_⟩
  refine H_take (i := 8) rfl (by kernel_rfl) (by kernel_rfl) (by kernel_rfl) rfl (pq_then pq_body) ⟨hE, hB1_0, hB1_1, trivial⟩ rfl (fun w hw => R_assign rfl) ?_
  refine H_done (by kernel_rfl) ?_
  refine T_tn ?_
  refine wp_ret ?_
  refine retct (c := (y2_4).l) (v2 := .bool (okL (x) (I))) rfl rfl rfl Try.isAgg53 Try.sizeOf53 hB1_2 rfl rfl ⟨_, rfl, hE, ?_⟩
  exact ⟨y2_4, rfl, py2_4, k2_4⟩
end Go.Proofs.Yteeopgpgbdhmhaa
namespace Go.Proofs.Yteeopgpgbdhmhaa
open Go.RowKit Go.Lib
set_option linter.unusedVariables false
def nil1 : Value := .slice none 0 0
def nils : List Value := List.replicate 32 nil1
/-- the cells of a key of the reference: seed, top tree, trees below -/
def kyL (n : Nm) (T : Value) (B : List Value) : List Value := n.l ++ (T :: B)
theorem ky_ble (n : Nm) (T : Value) (B : List Value) : Nat.ble (0 + 8) (kyL n T B).length = true := by
  refine Nat.ble_eq_true_of_le ?_
  unfold kyL
  rw [List.length_append]
  show 0 + 8 ≤ 8 + _
  omega
theorem ky_at {n : Nm} {T : Value} {B : List Value} {t : Nat} {v : Value} (h : B[t]? = some v) : (kyL n T B)[9 + t]? = some v := by
  unfold kyL
  rw [List.getElem?_append_right (by show 8 ≤ 9 + t; omega)]
  rw [show 9 + t - n.l.length = t + 1 by show 9 + t - 8 = t + 1; omega]
  exact h
theorem ky_set {n : Nm} {T : Value} {B : List Value} {t : Nat} {v : Value} : (kyL n T B).set (9 + t) v = kyL n T (B.set t v) := by
  unfold kyL
  rw [List.set_append_right _ _ (by show 8 ≤ 9 + t; omega)]
  rw [show 9 + t - n.l.length = t + 1 by show 9 + t - 8 = t + 1; omega]
  rfl
theorem nils_at {t : Nat} (h : t < 32) : nils[t]? = some nil1 := by
  unfold nils; rw [List.getElem?_replicate, if_pos h]
theorem nset_at {t : Nat} {v : Value} (h : t < 32) : (nils.set t v)[t]? = some v := by
  rw [List.getElem?_set_self (by unfold nils; rw [List.length_replicate]; exact h)]
theorem places159 (w : World) : ((#[⟨"Seed", 24, 0, false, "", "", 0⟩, ⟨"Top", 45, 8, false, "", "", 8⟩, ⟨"Bottom", 157, 9, false, "", "", 32⟩] : Array Field).mapM fun (f : Field) => Prod.mk f.offset <$> sizeOf f.type).run Try.prog w = .ok #[(0, 8), (8, 1), (9, 32)] w := by
  simp [Try.sizeOf24, Try.sizeOf45, Try.sizeOf157, go_sem]
theorem fill159 (n : Nm) {T : Value} (hT : T.cells = #[T]) : Instr.fill ((#[(0, 8), (8, 1), (9, 32)] : Array (Nat × Nat))[·]?) (Nm.zero.l ++ (nil1 :: nils)).toArray [(0, .agg n.l.toArray), (1, T)] = some (kyL n T nils).toArray := by
  rw [fill_step (off := 0) (size := 8) (c := n.l) rfl rfl rfl (by decide), fill_step (off := 8) (size := 1) (c := [T]) rfl hT rfl (by simp [Nm.l]), Instr.fill]
  simp [Nm.l, kyL]
section
variable {ρ : Operand → Value} {w : World} {dst : Option Tmp} {ty : TypeId} {pos : String} {aft : Array Edge} {gd : Option (Nat × Bool)}
theorem R_ixBot {x y : Operand} {g t : Nat} {k : IntKind} (hx : ρ x = .pointer (some ⟨g, 9, none⟩)) (hy : ρ y = .int k ((t : Nat) : Int)) (h : t < 32) :
    (execOp ρ ⟨dst, .indexAddr 157 x y, ty, pos, aft, gd⟩).run Try.prog w = .ok (.value (.pointer (some ⟨g, 9 + t, none⟩))) w := by
  rw [R_indexAddrA (i := ((t : Nat) : Int)) Try.runUnderlying157 Try.sizeOf45 hx hy (Int.natCast_nonneg t) (by omega), Int.toNat_natCast, Nat.mul_one]
end
section
variable {ops : Array Oper} {Q : Exit → Act → World → Prop} {K : Act → World → Prop} {n : Nat} {f : Nat → Value} {w : World} {d : Option Tmp} {ty : TypeId} {pos : String} {aft : Array Edge}
theorem D_stBot {x y : Operand} {g t : Nat} {nm : Nm} {T v : Value} {B : List Value} (hb : Blk w g (kyL nm T B) 159) (hx : ov n f x = .pointer (some ⟨g, 9 + t, none⟩)) (hy : ov n f y = v) (hv : plainV v = true) (hl : B.length = 32) (ht : t < 32)
    (k : ∀ w', Kp g w w' → Blk w' g (kyL nm T (B.set t v)) 159 → K (E n (upo f d undef)) w') :
    wpO Try.prog ops Q ⟨d, .store 45 x y, ty, pos, aft, none⟩ K (E n f) w := by
  refine D_store1 Try.sizeOf45 hb hx hy hv ?_ (fun w' h1 h2 => k w' h1 (by rw [← ky_set]; exact h2))
  refine Nat.ble_eq_true_of_le ?_
  unfold kyL
  rw [List.length_append, List.length_cons, hl]
  show (9 + t) + 1 ≤ 8 + 33
  omega
end
theorem rs_cells {w : World} {v : Value} {m sz : Nat} {cs : List Value} (h : Rs w v m sz cs) : v.cells = #[v] := by
  obtain ⟨_, A, c, rfl, _⟩ := h; rfl
theorem nils_len : nils.length = 32 := by unfold nils; exact List.length_replicate
theorem sig_in2 (n x : Nm) {f : Nat} (h : f < 1024) : sigI n ((f : Nat) : Int) x = (((([by8 (((f : Nat) : Int) / 2 ^ 8), by8 ((f : Nat) : Int)] ++ (oneSig (keyN n 1 (f / 32) (f % 32)) x).flatMap Nm.b) ++ (mpath 32 (leavesN n 1 (f / 32)) (f % 32)).flatMap Nm.b) ++ (oneSig (keyN n 2 0 (f / 32)) (mroot 32 (leavesN n 1 (f / 32)))).flatMap Nm.b) ++ (mpath 32 (leavesN n 2 0) (f / 32)).flatMap Nm.b) := by
  unfold sigI
  rw [if_pos (rng_in h), Int.toNat_natCast]
  unfold sigN partN
  simp only [List.append_assoc]
end Go.Proofs.Yteeopgpgbdhmhaa
namespace Go.Proofs.Yteeopgpgbdhmhaa
open Go.RowKit
set_option linter.unusedVariables false
set_option linter.unusedSimpArgs false
attribute [local irreducible] wpList wpO H wpQuiet wpStill Code.wp Exit.then Exit.inBlock bodyPost Code.rounds Calls valid lessV hless num between
set_option maxRecDepth 4000 in
set_option maxHeartbeats 2000000 in
theorem c117 (n : Nm) (w : World) : Calls Try.prog 117 [n.v].toArray w (RetE w fun r w' => ∃ g T, r = .pointer (some ⟨g, 0, none⟩) ∧ w.heap.size ≤ g ∧ Blk w' g (kyL n T nils) 159 ∧ Ow cN w.heap.size w.heap.size w' T (leavesN n 2 0)) := by
  refine enter Try.func117 Try.ntmps117 rfl rfl ?_
  have hE := Ext.refl w
  refine wp_seq ?_
  refine W_region ?_
  refine L (D_box (c := (n).l) (rfl) (fun aB1_0 w1_0 e1_0 gB1_0 hB1_0 => ?_))
  have lB1_0 := Nat.le_trans hE.size gB1_0
  replace hE := hE.trans e1_0
  refine L (D_v (R_assign rfl) ?_)
  refine S_nil ?_
  refine T_tn ?_
  refine wp_seq ?_
  refine W_held (fun W => Ext w W ∧ Blk W aB1_0 ((n).l) 24 ∧ True) mixed (fun w2_99 e2_99 => ?_)
  replace hE := hE.trans e2_99
  replace hB1_0 := hB1_0.ext e2_99
  refine H_take (i := 0) rfl (by kernel_rfl) (by kernel_rfl) (by kernel_rfl) rfl (pq_then pq_body) ⟨hE, hB1_0, trivial⟩ rfl (fun w hw => R_loadA (c := (n).l) Try.isAgg24 Try.sizeOf24 hw.2.1 rfl rfl rfl) ?_
  refine H_take (i := 1) rfl (by kernel_rfl) (by kernel_rfl) (by kernel_rfl) rfl (pq_then pq_body) ⟨hE, hB1_0, trivial⟩ rfl (fun w hw => R_loadA (c := (n).l) Try.isAgg24 Try.sizeOf24 hw.2.1 rfl rfl rfl) ?_
  refine H_op (i := 2) (by kernel_rfl) rfl rfl (D_callE (R_callF Try.call120 rfl rfl) (c120 (n) (2) (0) _) (fun v2_2 w2_2 e2_2 p2_2 => ?_))
  have o2_2 := p2_2
  have yv2_2_B1_0 : Value.ownBlock v2_2 ≠ some aB1_0 := fun hk => absurd (own_ge o2_2.1 hk) (Nat.not_le.2 hB1_0.lt)
  replace o2_2 := o2_2.low hE.size
  replace o2_2 := Ow.lev (lo' := w.heap.size) o2_2 (fun _ _ _ => trivial)
  replace hE := hE.trans e2_2
  replace hB1_0 := hB1_0.ext e2_2
  refine ⟨⟨hE, hB1_0, trivial⟩, ?_⟩
  have rcv2_2 := rs_cells o2_2.ls.1
  refine H_take (i := 3) rfl (by kernel_rfl) (by kernel_rfl) (by kernel_rfl) rfl (pq_then pq_body) ⟨hE, hB1_0, trivial⟩ rfl (fun w hw => R_buildS (vs := [(0, .agg (n).l.toArray), (1, v2_2)]) (c := (kyL n v2_2 nils)) Try.runUnderlying159 places159 Try.zeroValue159 (mapp2 rfl rfl) (fill159 _ rcv2_2)) ?_
  refine H_op (i := 4) (by kernel_rfl) rfl rfl (D_box (c := (kyL n v2_2 nils)) (rfl) (fun aB2_4 w2_4 e2_4 gB2_4 hB2_4 => ?_))
  have lB2_4 := Nat.le_trans hE.size gB2_4
  have nB1_0B2_4 := hB1_0.ne gB2_4
  replace hE := hE.trans e2_4
  replace hB1_0 := hB1_0.ext e2_4
  replace o2_2 := o2_2.ext e2_4
  refine ⟨⟨hE, hB1_0, trivial⟩, ?_⟩
  refine H_take (i := 5) rfl (by kernel_rfl) (by kernel_rfl) (by kernel_rfl) rfl (pq_then pq_body) ⟨hE, hB1_0, trivial⟩ rfl (fun w hw => R_assign rfl) ?_
  refine H_done (by kernel_rfl) ?_
  refine T_tn ?_
  refine wp_ret ?_
  refine ret1 (v := _) rfl rfl ⟨_, rfl, hE, ?_⟩
  exact ⟨aB2_4, v2_2, rfl, lB2_4, hB2_4, o2_2⟩
set_option maxRecDepth 4000 in
set_option maxHeartbeats 4000000 in
theorem c118 (n : Nm) (aK : Nat) (T : Value) (lT : Nat) (I : Int) (x : Nm) (w : World) (hTK : Blk w aK (kyL n T nils) 159) (hTT : Ow cN w.heap.size lT w T (leavesN n 2 0)) : Calls Try.prog 118 [.pointer (some ⟨aK, 0, none⟩), i64 I, x.v].toArray w (RetX (fun w' => Chg aK w w') (fun r w' => ∃ q, r = .tuple #[q, .bool (decide (0 ≤ I) && decide (I < 1024))] ∧ OwnB w' w.heap.size q (sigI n I x))) := by
  refine enter Try.func118 Try.ntmps118 rfl rfl ?_
  have hE := Chg.refl aK w
  refine wp_seq ?_
  refine W_region ?_
  refine L (D_box (c := (x).l) (rfl) (fun aB1_0 w1_0 e1_0 gB1_0 hB1_0 => ?_))
  have lB1_0 := Nat.le_trans hE.size gB1_0
  have nKB1_0 := hTK.ne gB1_0
  have yT_B1_0 : Value.ownBlock T ≠ some aB1_0 := fun hk => absurd (own_lt hTT.1 hk) (Nat.not_lt.2 gB1_0)
  replace hE := hE.trans e1_0
  replace hTK := hTK.ext e1_0
  replace hTT := hTT.ext e1_0
  refine L (D_v (R_assign rfl) ?_)
  refine L (D_v (R_assign rfl) ?_)
  refine S_nil ?_
  refine T_tn ?_
  refine wp_seq ?_
  refine wp_seq ?_
  refine W_region ?_
  refine L (D_v (R_move rfl) ?_)
  refine L (D_v (R_lssI rfl rfl) ?_)
  refine L (D_v (R_move rfl) ?_)
  refine L (D_g1 rfl rfl (fun hb => R_move rfl) ?_)
  refine L (D_g1 rfl rfl (fun hb => R_geqI (cgE hb) rfl) ?_)
  refine L (D_v (R_pickO rfl rfl rfl) ?_)
  refine S_nil ?_
  refine T_tn ?_
  refine W_if rfl (fun c1 => ?_) (fun c1 => ?_)
  ·
    have hout : (decide (0 ≤ I) && decide (I < 1024)) = false := rng_no c1
    refine wp_seq ?_
    refine W_region ?_
    refine L (D_v (R_assign rfl) ?_)
    refine L (D_v (R_assign rfl) ?_)
    refine S_nil ?_
    refine T_tn ?_
    refine wp_ret ?_
    refine T_tr ?_
    refine ret2 (v := .slice none 0 0) (v2 := .bool false) rfl rfl rfl ⟨_, rfl, hE, .slice none 0 0, ?_, ?_⟩
    · rw [hout]
    · rw [sig_no hout]; exact OwnB.nil _ _
  ·
    have hin := rng_yes c1
    obtain ⟨f, rfl⟩ : ∃ f : Nat, I = ((f : Nat) : Int) := ⟨I.toNat, (Int.toNat_of_nonneg hin.1).symm⟩
    have hf : f < 1024 := by omega
    have hm1 := mpath5 n 1 (f / 32) (j := f % 32) (by omega)
    have hm2 := mpath5 n 2 0 (j := f / 32) (by omega)
    refine wp_skip ?_
    refine T_tn ?_
    refine wp_seq ?_
    refine W_region ?_
    refine L (D_v (R_move rfl) ?_)
    refine L (D_v (R_quoN (m := f) (j := 32) rfl rfl (by decide) (by (try simp only [List.length_take, List.length_drop, List.length_append, List.length_cons, List.length_nil, List.length_replicate, List.length_set, Nm.b_len, be2_len]); omega)) ?_)
    refine L (D_v (R_assign rfl) ?_)
    refine S_nil ?_
    refine T_tn ?_
    refine wp_seq ?_
    refine wp_seq ?_
    refine W_region ?_
    refine L (D_v (R_move rfl) ?_)
    refine L (D_v (R_move rfl) ?_)
    refine L (D_v (R_nilCheck rfl) ?_)
    refine L (D_v (R_fieldAddr Try.runUnderlying159 rfl Try.sizeOf157 rfl) ?_)
    refine L (D_v (R_ixBot (t := (f / 32)) rfl rfl (by omega)) ?_)
    refine L (D_v (R_load Try.isAgg45 hTK rfl (ky_at (nils_at (t := (f / 32)) (by omega)))) ?_)
    refine L (D_v (R_len Try.underlying45 rfl (Ls.nil cN w.heap.size w1_0).1) ?_)
    refine L (D_v (R_eqlI rfl rfl) ?_)
    refine S_nil ?_
    refine T_tn ?_
    refine W_if rfl (fun c2 => ?_) (fun c2 => ?_)
    ·
      refine W_held (fun W => Chg aK w W ∧ Blk W aB1_0 ((x).l) 24 ∧ Ow cN w.heap.size lT W T (leavesN n 2 0) ∧ True) mixed (fun w5_99 e5_99 => ?_)
      replace hE := hE.trans e5_99
      replace hTK := hTK.ext e5_99
      replace hB1_0 := hB1_0.ext e5_99
      replace hTT := hTT.ext e5_99
      refine H_take (i := 0) rfl (by kernel_rfl) (by kernel_rfl) (by kernel_rfl) rfl (pq_then pq_body) ⟨hE, hB1_0, hTT, trivial⟩ rfl (fun w hw => R_move rfl) ?_
      refine H_take (i := 1) rfl (by kernel_rfl) (by kernel_rfl) (by kernel_rfl) rfl (pq_then pq_body) ⟨hE, hB1_0, hTT, trivial⟩ rfl (fun w hw => R_move rfl) ?_
      refine H_take (i := 2) rfl (by kernel_rfl) (by kernel_rfl) (by kernel_rfl) rfl (pq_then pq_body) ⟨hE, hB1_0, hTT, trivial⟩ rfl (fun w hw => R_move rfl) ?_
      refine H_take (i := 3) rfl (by kernel_rfl) (by kernel_rfl) (by kernel_rfl) rfl (pq_then pq_body) ⟨hE, hB1_0, hTT, trivial⟩ rfl (fun w hw => R_nilCheck rfl) ?_
      refine H_take (i := 4) rfl (by kernel_rfl) (by kernel_rfl) (by kernel_rfl) rfl (pq_then pq_body) ⟨hE, hB1_0, hTT, trivial⟩ rfl (fun w hw => R_fieldAddr Try.runUnderlying159 rfl Try.sizeOf24 rfl) ?_
      refine H_take (i := 6) rfl (by kernel_rfl) (by kernel_rfl) (by kernel_rfl) rfl (pq_then pq_body) ⟨hE, hB1_0, hTT, trivial⟩ rfl (fun w hw => R_move rfl) ?_
      refine H_take (i := 8) rfl (by kernel_rfl) (by kernel_rfl) (by kernel_rfl) rfl (pq_then pq_body) ⟨hE, hB1_0, hTT, trivial⟩ rfl (fun w hw => R_nilCheck rfl) ?_
      refine H_take (i := 9) rfl (by kernel_rfl) (by kernel_rfl) (by kernel_rfl) rfl (pq_then pq_body) ⟨hE, hB1_0, hTT, trivial⟩ rfl (fun w hw => R_fieldAddr Try.runUnderlying159 rfl Try.sizeOf157 rfl) ?_
      refine H_op (i := 5) (by kernel_rfl) rfl rfl (D_v (R_loadA (c := (n).l) Try.isAgg24 Try.sizeOf24 hTK rfl rfl (ky_ble _ _ _)) ⟨⟨hE, hB1_0, hTT, trivial⟩, ?_⟩)
      refine H_op (i := 7) (by kernel_rfl) rfl rfl (D_callE (R_callF Try.call120 rfl rfl) (c120 (n) (1) ((f / 32)) _) (fun v5_7 w5_7 e5_7 p5_7 => ?_))
      have o5_7 := p5_7
      have yv5_7_B1_0 : Value.ownBlock v5_7 ≠ some aB1_0 := fun hk => absurd (own_ge o5_7.1 hk) (Nat.not_le.2 hB1_0.lt)
      have zT_v5_7 := own_apart hTT.1 o5_7.1
      have zv5_7_T := fun k hk hk2 => zT_v5_7 k hk2 hk
      replace o5_7 := o5_7.low hE.size
      replace o5_7 := Ow.lev (lo' := w.heap.size) o5_7 (fun _ _ _ => trivial)
      replace hE := hE.trans e5_7
      replace hTK := hTK.ext e5_7
      replace hB1_0 := hB1_0.ext e5_7
      replace hTT := hTT.ext e5_7
      refine ⟨⟨hE, hB1_0, hTT, trivial⟩, ?_⟩
      refine H_take (i := 10) rfl (by kernel_rfl) (by kernel_rfl) (by kernel_rfl) rfl (pq_then pq_body) ⟨hE, hB1_0, hTT, trivial⟩ rfl (fun w hw => R_ixBot (t := (f / 32)) rfl rfl (by omega)) ?_
      have xhTT := own_neB hTT.1 hTK rfl
      have xo5_7 := own_neB o5_7.1 hTK rfl
      have h0 := hTK
      refine H_op (i := 11) (by kernel_rfl) rfl rfl (D_stBot (t := (f / 32)) (v := v5_7) hTK rfl rfl (rs_pl o5_7.ls.1) nils_len (by omega) (fun w5_11 k5_11 hK => ?_))
      replace hE := hE.kp k5_11 trivial
      replace hB1_0 := hB1_0.kp k5_11 nKB1_0.symm
      replace hTT := own_trivL (lo := w.heap.size) (own_kp hTT.1 k5_11 xhTT)
      replace o5_7 := own_trivL (lo := w.heap.size) (own_kp o5_7.1 k5_11 xo5_7)
      refine ⟨⟨hE, hB1_0, hTT, trivial⟩, ?_⟩
      refine H_done (by kernel_rfl) ?_
      refine T_tn ?_
      refine wp_seq ?_
      refine W_region ?_
      refine L (D_v (R_move rfl) ?_)
      refine L (D_v (R_move rfl) ?_)
      refine L (D_v (R_nilCheck rfl) ?_)
      refine L (D_v (R_fieldAddr Try.runUnderlying159 rfl Try.sizeOf157 rfl) ?_)
      refine L (D_v (R_ixBot (t := (f / 32)) rfl rfl (by omega)) ?_)
      refine L (D_v (R_load Try.isAgg45 hK rfl (ky_at (nset_at (t := (f / 32)) (by omega)))) ?_)
      refine L (D_v (R_move rfl) ?_)
      refine L (D_v (R_remN (m := f) (j := 32) rfl rfl (by decide) (by (try simp only [List.length_take, List.length_drop, List.length_append, List.length_cons, List.length_nil, List.length_replicate, List.length_set, Nm.b_len, be2_len]); omega)) ?_)
      refine L (D_callE (R_callF Try.call119 rfl rfl) (c119 32 v5_7 ((leavesN n (1) ((f / 32)))) ((f % 32)) _ (by rw [leavesN_len]; omega) (by rw [leavesN_len]; omega) (by rw [leavesN_len]; omega) (o5_7.ls.lev fun _ _ _ => trivial)) (fun v6_8 w6_8 e6_8 p6_8 => ?_))
      obtain ⟨q6_8, rfl, o6_8⟩ := p6_8
      have yq6_8_B1_0 : Value.ownBlock q6_8 ≠ some aB1_0 := fun hk => absurd (own_ge o6_8.1 hk) (Nat.not_le.2 hB1_0.lt)
      have zT_q6_8 := own_apart hTT.1 o6_8.1
      have zq6_8_T := fun k hk hk2 => zT_q6_8 k hk2 hk
      have zv5_7_q6_8 := own_apart o5_7.1 o6_8.1
      have zq6_8_v5_7 := fun k hk hk2 => zv5_7_q6_8 k hk2 hk
      replace o6_8 := o6_8.low hE.size
      replace o6_8 := Ow.lev (lo' := w.heap.size) o6_8 (fun _ _ _ => trivial)
      replace hE := hE.trans e6_8
      replace hK := hK.ext e6_8
      replace hB1_0 := hB1_0.ext e6_8
      replace hTT := hTT.ext e6_8
      replace o5_7 := o5_7.ext e6_8
      refine L (D_v (R_move rfl) ?_)
      refine L (D_v (R_extract rfl rfl) ?_)
      refine L (D_v (R_extract rfl rfl) ?_)
      refine L (D_v (R_assign rfl) ?_)
      refine L (D_v (R_assign rfl) ?_)
      refine S_nil ?_
      refine T_tn ?_
      refine wp_seq ?_
      refine W_region ?_
      refine L (D_v (R_move rfl) ?_)
      refine L (D_v (R_nilCheck rfl) ?_)
      refine L (D_v (R_fieldAddr Try.runUnderlying159 rfl Try.sizeOf45 rfl) ?_)
      refine L (D_v (R_load Try.isAgg45 hK rfl rfl) ?_)
      refine L (D_v (R_move rfl) ?_)
      refine L (D_callE (R_callF Try.call119 rfl rfl) (c119 32 T ((leavesN n 2 0)) ((f / 32)) _ (by rw [leavesN_len]; omega) (by rw [leavesN_len]; omega) (by rw [leavesN_len]; omega) (hTT.ls.lev fun _ _ _ => trivial)) (fun v7_5 w7_5 e7_5 p7_5 => ?_))
      obtain ⟨q7_5, rfl, o7_5⟩ := p7_5
      have yq7_5_B1_0 : Value.ownBlock q7_5 ≠ some aB1_0 := fun hk => absurd (own_ge o7_5.1 hk) (Nat.not_le.2 hB1_0.lt)
      have zT_q7_5 := own_apart hTT.1 o7_5.1
      have zq7_5_T := fun k hk hk2 => zT_q7_5 k hk2 hk
      have zv5_7_q7_5 := own_apart o5_7.1 o7_5.1
      have zq7_5_v5_7 := fun k hk hk2 => zv5_7_q7_5 k hk2 hk
      have zq6_8_q7_5 := own_apart o6_8.1 o7_5.1
      have zq7_5_q6_8 := fun k hk hk2 => zq6_8_q7_5 k hk2 hk
      replace o7_5 := o7_5.low hE.size
      replace o7_5 := Ow.lev (lo' := w.heap.size) o7_5 (fun _ _ _ => trivial)
      replace hE := hE.trans e7_5
      replace hK := hK.ext e7_5
      replace hB1_0 := hB1_0.ext e7_5
      replace hTT := hTT.ext e7_5
      replace o5_7 := o5_7.ext e7_5
      replace o6_8 := o6_8.ext e7_5
      refine L (D_v (R_move rfl) ?_)
      refine L (D_v (R_extract rfl rfl) ?_)
      refine L (D_v (R_extract rfl rfl) ?_)
      refine L (D_v (R_assign rfl) ?_)
      refine L (D_v (R_assign rfl) ?_)
      refine S_nil ?_
      refine T_tn ?_
      refine wp_seq ?_
      refine W_cut (R := fun g W => ∃ (v8_15 : Value) (v8_18 : Value), (g 0 = .pointer (some ⟨aK, 0, none⟩)) ∧ (g 8 = i64 (((f / 32) : Nat) : Int)) ∧ (g 11 = q7_5) ∧ (g 13 = v8_18) ∧ Chg aK w W ∧ Blk W aB1_0 ((x).l) 24 ∧ Blk W aK ((kyL n T (nils.set ((f / 32)) v5_7))) 159 ∧ Ow cN w.heap.size lT W T (leavesN n 2 0) ∧ Ow cN w.heap.size w.heap.size W q7_5 (mpath 32 ((leavesN n 2 0)) ((f / 32))) ∧ Ow cN w.heap.size w.heap.size W v5_7 (leavesN n (1) ((f / 32))) ∧ OwnB W w.heap.size v8_18 (([(by8 ((((f : Nat) : Int) / 2 ^ 8))), (by8 (((f : Nat) : Int)))] ++ ((oneSig (keyN n (1) ((f / 32)) ((f % 32))) x)).flatMap Nm.b) ++ ((mpath 32 ((leavesN n (1) ((f / 32)))) ((f % 32)))).flatMap Nm.b) ∧ ((∀ k, Value.ownBlock T = some k → Value.ownBlock v8_15 ≠ some k)) ∧ ((∀ k, Value.ownBlock q6_8 = some k → Value.ownBlock v8_15 ≠ some k)) ∧ ((∀ k, Value.ownBlock q7_5 = some k → Value.ownBlock v8_15 ≠ some k)) ∧ ((∀ k, Value.ownBlock v5_7 = some k → Value.ownBlock v8_15 ≠ some k)) ∧ Value.ownBlock v8_15 ≠ some aB1_0 ∧ ((∀ k, Value.ownBlock v8_15 = some k → Value.ownBlock T ≠ some k)) ∧ ((∀ k, Value.ownBlock v8_15 = some k → Value.ownBlock q6_8 ≠ some k)) ∧ ((∀ k, Value.ownBlock v8_15 = some k → Value.ownBlock q7_5 ≠ some k)) ∧ ((∀ k, Value.ownBlock v8_15 = some k → Value.ownBlock v5_7 ≠ some k))) ?_ ?_
      ·
        refine W_held (fun W => Chg aK w W ∧ Blk W aK ((kyL n T (nils.set ((f / 32)) v5_7))) 159 ∧ Blk W aB1_0 ((x).l) 24 ∧ Ow cN w.heap.size lT W T (leavesN n 2 0) ∧ Ow cN w.heap.size w.heap.size W v5_7 (leavesN n (1) ((f / 32))) ∧ Ow cN w.heap.size w.heap.size W q6_8 (mpath 32 ((leavesN n (1) ((f / 32)))) ((f % 32))) ∧ Ow cN w.heap.size w.heap.size W q7_5 (mpath 32 ((leavesN n 2 0)) ((f / 32))) ∧ True) mixed (fun w8_99 e8_99 => ?_)
        replace hE := hE.trans e8_99
        replace hK := hK.ext e8_99
        replace hB1_0 := hB1_0.ext e8_99
        replace hTT := hTT.ext e8_99
        replace o5_7 := o5_7.ext e8_99
        replace o6_8 := o6_8.ext e8_99
        replace o7_5 := o7_5.ext e8_99
        refine H_take (i := 0) rfl (by kernel_rfl) (by kernel_rfl) (by kernel_rfl) rfl pq_cut ⟨hE, hK, hB1_0, hTT, o5_7, o6_8, o7_5, trivial⟩ rfl (fun w hw => R_move rfl) ?_
        refine H_take (i := 1) rfl (by kernel_rfl) (by kernel_rfl) (by kernel_rfl) rfl pq_cut ⟨hE, hK, hB1_0, hTT, o5_7, o6_8, o7_5, trivial⟩ rfl (fun w hw => R_shrC (z := 8) rfl rfl (by decide) (by decide)) ?_
        refine H_take (i := 2) rfl (by kernel_rfl) (by kernel_rfl) (by kernel_rfl) rfl pq_cut ⟨hE, hK, hB1_0, hTT, o5_7, o6_8, o7_5, trivial⟩ rfl (fun w hw => R_convB Try.runUnderlying3 rfl) ?_
        refine H_take (i := 3) rfl (by kernel_rfl) (by kernel_rfl) (by kernel_rfl) rfl pq_cut ⟨hE, hK, hB1_0, hTT, o5_7, o6_8, o7_5, trivial⟩ rfl (fun w hw => R_move rfl) ?_
        refine H_take (i := 4) rfl (by kernel_rfl) (by kernel_rfl) (by kernel_rfl) rfl pq_cut ⟨hE, hK, hB1_0, hTT, o5_7, o6_8, o7_5, trivial⟩ rfl (fun w hw => R_convB Try.runUnderlying3 rfl) ?_
        refine H_take (i := 6) rfl (by kernel_rfl) (by kernel_rfl) (by kernel_rfl) rfl pq_cut ⟨hE, hK, hB1_0, hTT, o5_7, o6_8, o7_5, trivial⟩ rfl (fun w hw => R_move rfl) ?_
        refine H_take (i := 7) rfl (by kernel_rfl) (by kernel_rfl) (by kernel_rfl) rfl pq_cut ⟨hE, hK, hB1_0, hTT, o5_7, o6_8, o7_5, trivial⟩ rfl (fun w hw => R_nilCheck rfl) ?_
        refine H_take (i := 8) rfl (by kernel_rfl) (by kernel_rfl) (by kernel_rfl) rfl pq_cut ⟨hE, hK, hB1_0, hTT, o5_7, o6_8, o7_5, trivial⟩ rfl (fun w hw => R_fieldAddr Try.runUnderlying159 rfl Try.sizeOf24 rfl) ?_
        refine H_take (i := 9) rfl (by kernel_rfl) (by kernel_rfl) (by kernel_rfl) rfl pq_cut ⟨hE, hK, hB1_0, hTT, o5_7, o6_8, o7_5, trivial⟩ rfl (fun w hw => R_loadA (c := (n).l) Try.isAgg24 Try.sizeOf24 hw.2.1 rfl rfl (ky_ble _ _ _)) ?_
        refine H_take (i := 10) rfl (by kernel_rfl) (by kernel_rfl) (by kernel_rfl) rfl pq_cut ⟨hE, hK, hB1_0, hTT, o5_7, o6_8, o7_5, trivial⟩ rfl (fun w hw => R_move rfl) ?_
        refine H_take (i := 11) rfl (by kernel_rfl) (by kernel_rfl) (by kernel_rfl) rfl pq_cut ⟨hE, hK, hB1_0, hTT, o5_7, o6_8, o7_5, trivial⟩ rfl (fun w hw => R_move rfl) ?_
        refine H_take (i := 12) rfl (by kernel_rfl) (by kernel_rfl) (by kernel_rfl) rfl pq_cut ⟨hE, hK, hB1_0, hTT, o5_7, o6_8, o7_5, trivial⟩ rfl (fun w hw => R_remN (m := f) (j := 32) rfl rfl (by decide) (by (try simp only [List.length_take, List.length_drop, List.length_append, List.length_cons, List.length_nil, List.length_replicate, List.length_set, Nm.b_len, be2_len]); omega)) ?_
        refine H_take (i := 14) rfl (by kernel_rfl) (by kernel_rfl) (by kernel_rfl) rfl pq_cut ⟨hE, hK, hB1_0, hTT, o5_7, o6_8, o7_5, trivial⟩ rfl (fun w hw => R_loadA (c := (x).l) Try.isAgg24 Try.sizeOf24 hw.2.2.1 rfl rfl rfl) ?_
        refine H_take (i := 17) rfl (by kernel_rfl) (by kernel_rfl) (by kernel_rfl) rfl pq_cut ⟨hE, hK, hB1_0, hTT, o5_7, o6_8, o7_5, trivial⟩ rfl (fun w hw => R_move rfl) ?_
        refine H_op2 (i := 5) (i2 := 13) (by kernel_rfl) rfl rfl rfl rfl ?_ ?_
        ·
          refine D_buildB (vs := [(0, u8 (by8 ((((f : Nat) : Int) / 2 ^ 8)))), (1, u8 (by8 (((f : Nat) : Int))))]) (b := [(by8 ((((f : Nat) : Int) / 2 ^ 8))), (by8 (((f : Nat) : Int)))]) Try.underlying31 Try.sizeOf5 Try.zeroValue5 rfl (fillB2 _ _) rfl rfl rfl (fun v8_5 w8_5 o8_5 e8_5 => ?_)
          replace o8_5 := o8_5.lo hE.size
          replace hE := hE.trans e8_5
          replace hK := hK.ext e8_5
          replace hB1_0 := hB1_0.ext e8_5
          replace hTT := hTT.ext e8_5
          replace o5_7 := o5_7.ext e8_5
          replace o6_8 := o6_8.ext e8_5
          replace o7_5 := o7_5.ext e8_5
          refine ⟨⟨hE, hK, hB1_0, hTT, o5_7, o6_8, o7_5, trivial⟩, ?_⟩
          refine H_op (i := 13) (by kernel_rfl) rfl rfl (D_call (R_callF Try.call123 rfl rfl) (c123 (n) (1) ((f / 32)) ((f % 32)) _) (fun w8_13 e8_13 => ?_))
          replace hE := hE.trans e8_13
          replace hK := hK.ext e8_13
          replace hB1_0 := hB1_0.ext e8_13
          replace hTT := hTT.ext e8_13
          replace o5_7 := o5_7.ext e8_13
          replace o6_8 := o6_8.ext e8_13
          replace o7_5 := o7_5.ext e8_13
          replace o8_5 := o8_5.ext e8_13
          refine ⟨⟨hE, hK, hB1_0, hTT, o5_7, o6_8, o7_5, trivial⟩, ?_⟩
          refine H_op (i := 15) (by kernel_rfl) rfl rfl (D_callE (R_callF Try.call122 rfl rfl) (c122 ((keyN n (1) ((f / 32)) ((f % 32)))) (x) _) (fun v8_15 w8_15 e8_15 p8_15 => ?_))
          have o8_15 := p8_15
          have yv8_15_B1_0 : Value.ownBlock v8_15 ≠ some aB1_0 := fun hk => absurd (own_ge o8_15.1 hk) (Nat.not_le.2 hB1_0.lt)
          have zT_v8_15 := own_apart hTT.1 o8_15.1
          have zv8_15_T := fun k hk hk2 => zT_v8_15 k hk2 hk
          have zv5_7_v8_15 := own_apart o5_7.1 o8_15.1
          have zv8_15_v5_7 := fun k hk hk2 => zv5_7_v8_15 k hk2 hk
          have zq6_8_v8_15 := own_apart o6_8.1 o8_15.1
          have zv8_15_q6_8 := fun k hk hk2 => zq6_8_v8_15 k hk2 hk
          have zq7_5_v8_15 := own_apart o7_5.1 o8_15.1
          have zv8_15_q7_5 := fun k hk hk2 => zq7_5_v8_15 k hk2 hk
          replace o8_15 := o8_15.low hE.size
          replace o8_15 := Ow.lev (lo' := w.heap.size) o8_15 (fun _ _ _ => trivial)
          replace hE := hE.trans e8_15
          replace hK := hK.ext e8_15
          replace hB1_0 := hB1_0.ext e8_15
          replace hTT := hTT.ext e8_15
          replace o5_7 := o5_7.ext e8_15
          replace o6_8 := o6_8.ext e8_15
          replace o7_5 := o7_5.ext e8_15
          replace o8_5 := o8_5.ext e8_15
          refine ⟨⟨hE, hK, hB1_0, hTT, o5_7, o6_8, o7_5, trivial⟩, ?_⟩
          refine H_op (i := 16) (by kernel_rfl) rfl rfl (D_callX (R_callF Try.call121 rfl rfl) (c121 w.heap.size _ v8_5 v8_15 [(by8 ((((f : Nat) : Int) / 2 ^ 8))), (by8 (((f : Nat) : Int)))] (oneSig (keyN n (1) ((f / 32)) ((f % 32))) x) _ hE.size (by simp only [List.length_append, flat_len, oneSig_len, hm1, hm2, List.length_cons, List.length_nil]; omega) (by simp only [oneSig_len, hm1, hm2]; omega) o8_5 (Ow.lev (lo' := _) o8_15 (fun _ _ _ => trivial))) (fun v8_16 w8_16 p8_16 => ?_))
          obtain ⟨g8_16, o8_16, sp8_16⟩ := p8_16
          replace hE := hE.grown g8_16 (fun k hk => own_ge o8_5 hk)
          replace hK := hK.grown g8_16 (own_neB o8_5 hK rfl)
          replace hB1_0 := hB1_0.grown g8_16 (own_neB o8_5 hB1_0 rfl)
          replace hTT := own_trivL (lo := w.heap.size) (own_grown hTT.1 g8_16 (own_ne hTT.1 o8_5 rfl))
          replace o5_7 := own_trivL (lo := w.heap.size) (own_grown o5_7.1 g8_16 (own_ne o5_7.1 o8_5 rfl))
          replace o6_8 := own_trivL (lo := w.heap.size) (own_grown o6_8.1 g8_16 (own_ne o6_8.1 o8_5 rfl))
          replace o7_5 := own_trivL (lo := w.heap.size) (own_grown o7_5.1 g8_16 (own_ne o7_5.1 o8_5 rfl))
          replace o8_15 := own_trivL (lo := w.heap.size) (own_grown o8_15.1 g8_16 (own_ne o8_15.1 o8_5 rfl))
          refine ⟨⟨hE, hK, hB1_0, hTT, o5_7, o6_8, o7_5, trivial⟩, ?_⟩
          refine H_op (i := 18) (by kernel_rfl) rfl rfl (D_callX (R_callF Try.call121 rfl rfl) (c121 w.heap.size _ v8_16 q6_8 ([(by8 ((((f : Nat) : Int) / 2 ^ 8))), (by8 (((f : Nat) : Int)))] ++ ((oneSig (keyN n (1) ((f / 32)) ((f % 32))) x)).flatMap Nm.b) (mpath 32 ((leavesN n (1) ((f / 32)))) ((f % 32))) _ hE.size (by simp only [List.length_append, flat_len, oneSig_len, hm1, hm2, List.length_cons, List.length_nil]; omega) (by simp only [oneSig_len, hm1, hm2]; omega) o8_16 (Ow.lev (lo' := _) o6_8 (fun _ _ _ => trivial))) (fun v8_18 w8_18 p8_18 => ?_))
          obtain ⟨g8_18, o8_18, sp8_18⟩ := p8_18
          replace hE := hE.grown g8_18 (fun k hk => own_ge o8_16 hk)
          replace hK := hK.grown g8_18 (own_neB o8_16 hK rfl)
          replace hB1_0 := hB1_0.grown g8_18 (own_neB o8_16 hB1_0 rfl)
          replace hTT := own_trivL (lo := w.heap.size) (own_grown hTT.1 g8_18 (own_ne hTT.1 o8_16 rfl))
          replace o5_7 := own_trivL (lo := w.heap.size) (own_grown o5_7.1 g8_18 (own_ne o5_7.1 o8_16 rfl))
          replace o6_8 := own_trivL (lo := w.heap.size) (own_grown o6_8.1 g8_18 (own_ne o6_8.1 o8_16 rfl))
          replace o7_5 := own_trivL (lo := w.heap.size) (own_grown o7_5.1 g8_18 (own_ne o7_5.1 o8_16 rfl))
          replace o8_15 := own_trivL (lo := w.heap.size) (own_grown o8_15.1 g8_18 (own_ne o8_15.1 o8_16 rfl))
          refine ⟨⟨hE, hK, hB1_0, hTT, o5_7, o6_8, o7_5, trivial⟩, ?_⟩
          refine H_take (i := 19) rfl (by kernel_rfl) (by kernel_rfl) (by kernel_rfl) rfl pq_cut ⟨hE, hK, hB1_0, hTT, o5_7, o6_8, o7_5, trivial⟩ rfl (fun w hw => R_assign rfl) ?_
          refine H_done (by kernel_rfl) ?_
          exact ⟨rfl, _, rfl, _, _, rfl, rfl, rfl, rfl, hE, hB1_0, hK, hTT, o7_5, o5_7, o8_18, zT_v8_15, zq6_8_v8_15, zq7_5_v8_15, zv5_7_v8_15, yv8_15_B1_0, zv8_15_T, zv8_15_q6_8, zv8_15_q7_5, zv8_15_v5_7⟩
        ·
          refine D_call (R_callF Try.call123 rfl rfl) (c123 (n) (1) ((f / 32)) ((f % 32)) _) (fun w8_13 e8_13 => ?_)
          replace hE := hE.trans e8_13
          replace hK := hK.ext e8_13
          replace hB1_0 := hB1_0.ext e8_13
          replace hTT := hTT.ext e8_13
          replace o5_7 := o5_7.ext e8_13
          replace o6_8 := o6_8.ext e8_13
          replace o7_5 := o7_5.ext e8_13
          refine ⟨⟨hE, hK, hB1_0, hTT, o5_7, o6_8, o7_5, trivial⟩, ?_⟩
          refine H_op2 (i := 5) (i2 := 15) (by kernel_rfl) rfl rfl rfl rfl ?_ ?_
          ·
            refine D_buildB (vs := [(0, u8 (by8 ((((f : Nat) : Int) / 2 ^ 8)))), (1, u8 (by8 (((f : Nat) : Int))))]) (b := [(by8 ((((f : Nat) : Int) / 2 ^ 8))), (by8 (((f : Nat) : Int)))]) Try.underlying31 Try.sizeOf5 Try.zeroValue5 rfl (fillB2 _ _) rfl rfl rfl (fun v8_5 w8_5 o8_5 e8_5 => ?_)
            replace o8_5 := o8_5.lo hE.size
            replace hE := hE.trans e8_5
            replace hK := hK.ext e8_5
            replace hB1_0 := hB1_0.ext e8_5
            replace hTT := hTT.ext e8_5
            replace o5_7 := o5_7.ext e8_5
            replace o6_8 := o6_8.ext e8_5
            replace o7_5 := o7_5.ext e8_5
            refine ⟨⟨hE, hK, hB1_0, hTT, o5_7, o6_8, o7_5, trivial⟩, ?_⟩
            refine H_op (i := 15) (by kernel_rfl) rfl rfl (D_callE (R_callF Try.call122 rfl rfl) (c122 ((keyN n (1) ((f / 32)) ((f % 32)))) (x) _) (fun v8_15 w8_15 e8_15 p8_15 => ?_))
            have o8_15 := p8_15
            have yv8_15_B1_0 : Value.ownBlock v8_15 ≠ some aB1_0 := fun hk => absurd (own_ge o8_15.1 hk) (Nat.not_le.2 hB1_0.lt)
            have zT_v8_15 := own_apart hTT.1 o8_15.1
            have zv8_15_T := fun k hk hk2 => zT_v8_15 k hk2 hk
            have zv5_7_v8_15 := own_apart o5_7.1 o8_15.1
            have zv8_15_v5_7 := fun k hk hk2 => zv5_7_v8_15 k hk2 hk
            have zq6_8_v8_15 := own_apart o6_8.1 o8_15.1
            have zv8_15_q6_8 := fun k hk hk2 => zq6_8_v8_15 k hk2 hk
            have zq7_5_v8_15 := own_apart o7_5.1 o8_15.1
            have zv8_15_q7_5 := fun k hk hk2 => zq7_5_v8_15 k hk2 hk
            replace o8_15 := o8_15.low hE.size
            replace o8_15 := Ow.lev (lo' := w.heap.size) o8_15 (fun _ _ _ => trivial)
            replace hE := hE.trans e8_15
            replace hK := hK.ext e8_15
            replace hB1_0 := hB1_0.ext e8_15
            replace hTT := hTT.ext e8_15
            replace o5_7 := o5_7.ext e8_15
            replace o6_8 := o6_8.ext e8_15
            replace o7_5 := o7_5.ext e8_15
            replace o8_5 := o8_5.ext e8_15
            refine ⟨⟨hE, hK, hB1_0, hTT, o5_7, o6_8, o7_5, trivial⟩, ?_⟩
            refine H_op (i := 16) (by kernel_rfl) rfl rfl (D_callX (R_callF Try.call121 rfl rfl) (c121 w.heap.size _ v8_5 v8_15 [(by8 ((((f : Nat) : Int) / 2 ^ 8))), (by8 (((f : Nat) : Int)))] (oneSig (keyN n (1) ((f / 32)) ((f % 32))) x) _ hE.size (by simp only [List.length_append, flat_len, oneSig_len, hm1, hm2, List.length_cons, List.length_nil]; omega) (by simp only [oneSig_len, hm1, hm2]; omega) o8_5 (Ow.lev (lo' := _) o8_15 (fun _ _ _ => trivial))) (fun v8_16 w8_16 p8_16 => ?_))
            obtain ⟨g8_16, o8_16, sp8_16⟩ := p8_16
            replace hE := hE.grown g8_16 (fun k hk => own_ge o8_5 hk)
            replace hK := hK.grown g8_16 (own_neB o8_5 hK rfl)
            replace hB1_0 := hB1_0.grown g8_16 (own_neB o8_5 hB1_0 rfl)
            replace hTT := own_trivL (lo := w.heap.size) (own_grown hTT.1 g8_16 (own_ne hTT.1 o8_5 rfl))
            replace o5_7 := own_trivL (lo := w.heap.size) (own_grown o5_7.1 g8_16 (own_ne o5_7.1 o8_5 rfl))
            replace o6_8 := own_trivL (lo := w.heap.size) (own_grown o6_8.1 g8_16 (own_ne o6_8.1 o8_5 rfl))
            replace o7_5 := own_trivL (lo := w.heap.size) (own_grown o7_5.1 g8_16 (own_ne o7_5.1 o8_5 rfl))
            replace o8_15 := own_trivL (lo := w.heap.size) (own_grown o8_15.1 g8_16 (own_ne o8_15.1 o8_5 rfl))
            refine ⟨⟨hE, hK, hB1_0, hTT, o5_7, o6_8, o7_5, trivial⟩, ?_⟩
            refine H_op (i := 18) (by kernel_rfl) rfl rfl (D_callX (R_callF Try.call121 rfl rfl) (c121 w.heap.size _ v8_16 q6_8 ([(by8 ((((f : Nat) : Int) / 2 ^ 8))), (by8 (((f : Nat) : Int)))] ++ ((oneSig (keyN n (1) ((f / 32)) ((f % 32))) x)).flatMap Nm.b) (mpath 32 ((leavesN n (1) ((f / 32)))) ((f % 32))) _ hE.size (by simp only [List.length_append, flat_len, oneSig_len, hm1, hm2, List.length_cons, List.length_nil]; omega) (by simp only [oneSig_len, hm1, hm2]; omega) o8_16 (Ow.lev (lo' := _) o6_8 (fun _ _ _ => trivial))) (fun v8_18 w8_18 p8_18 => ?_))
            obtain ⟨g8_18, o8_18, sp8_18⟩ := p8_18
            replace hE := hE.grown g8_18 (fun k hk => own_ge o8_16 hk)
            replace hK := hK.grown g8_18 (own_neB o8_16 hK rfl)
            replace hB1_0 := hB1_0.grown g8_18 (own_neB o8_16 hB1_0 rfl)
            replace hTT := own_trivL (lo := w.heap.size) (own_grown hTT.1 g8_18 (own_ne hTT.1 o8_16 rfl))
            replace o5_7 := own_trivL (lo := w.heap.size) (own_grown o5_7.1 g8_18 (own_ne o5_7.1 o8_16 rfl))
            replace o6_8 := own_trivL (lo := w.heap.size) (own_grown o6_8.1 g8_18 (own_ne o6_8.1 o8_16 rfl))
            replace o7_5 := own_trivL (lo := w.heap.size) (own_grown o7_5.1 g8_18 (own_ne o7_5.1 o8_16 rfl))
            replace o8_15 := own_trivL (lo := w.heap.size) (own_grown o8_15.1 g8_18 (own_ne o8_15.1 o8_16 rfl))
            refine ⟨⟨hE, hK, hB1_0, hTT, o5_7, o6_8, o7_5, trivial⟩, ?_⟩
            refine H_take (i := 19) rfl (by kernel_rfl) (by kernel_rfl) (by kernel_rfl) rfl pq_cut ⟨hE, hK, hB1_0, hTT, o5_7, o6_8, o7_5, trivial⟩ rfl (fun w hw => R_assign rfl) ?_
            refine H_done (by kernel_rfl) ?_
            exact ⟨rfl, _, rfl, _, _, rfl, rfl, rfl, rfl, hE, hB1_0, hK, hTT, o7_5, o5_7, o8_18, zT_v8_15, zq6_8_v8_15, zq7_5_v8_15, zv5_7_v8_15, yv8_15_B1_0, zv8_15_T, zv8_15_q6_8, zv8_15_q7_5, zv8_15_v5_7⟩
          ·
            refine D_callE (R_callF Try.call122 rfl rfl) (c122 ((keyN n (1) ((f / 32)) ((f % 32)))) (x) _) (fun v8_15 w8_15 e8_15 p8_15 => ?_)
            have o8_15 := p8_15
            have yv8_15_B1_0 : Value.ownBlock v8_15 ≠ some aB1_0 := fun hk => absurd (own_ge o8_15.1 hk) (Nat.not_le.2 hB1_0.lt)
            have zT_v8_15 := own_apart hTT.1 o8_15.1
            have zv8_15_T := fun k hk hk2 => zT_v8_15 k hk2 hk
            have zv5_7_v8_15 := own_apart o5_7.1 o8_15.1
            have zv8_15_v5_7 := fun k hk hk2 => zv5_7_v8_15 k hk2 hk
            have zq6_8_v8_15 := own_apart o6_8.1 o8_15.1
            have zv8_15_q6_8 := fun k hk hk2 => zq6_8_v8_15 k hk2 hk
            have zq7_5_v8_15 := own_apart o7_5.1 o8_15.1
            have zv8_15_q7_5 := fun k hk hk2 => zq7_5_v8_15 k hk2 hk
            replace o8_15 := o8_15.low hE.size
            replace o8_15 := Ow.lev (lo' := w.heap.size) o8_15 (fun _ _ _ => trivial)
            replace hE := hE.trans e8_15
            replace hK := hK.ext e8_15
            replace hB1_0 := hB1_0.ext e8_15
            replace hTT := hTT.ext e8_15
            replace o5_7 := o5_7.ext e8_15
            replace o6_8 := o6_8.ext e8_15
            replace o7_5 := o7_5.ext e8_15
            refine ⟨⟨hE, hK, hB1_0, hTT, o5_7, o6_8, o7_5, trivial⟩, ?_⟩
            refine H_op (i := 5) (by kernel_rfl) rfl rfl (D_buildB (vs := [(0, u8 (by8 ((((f : Nat) : Int) / 2 ^ 8)))), (1, u8 (by8 (((f : Nat) : Int))))]) (b := [(by8 ((((f : Nat) : Int) / 2 ^ 8))), (by8 (((f : Nat) : Int)))]) Try.underlying31 Try.sizeOf5 Try.zeroValue5 rfl (fillB2 _ _) rfl rfl rfl (fun v8_5 w8_5 o8_5 e8_5 => ?_))
            replace o8_5 := o8_5.lo hE.size
            replace hE := hE.trans e8_5
            replace hK := hK.ext e8_5
            replace hB1_0 := hB1_0.ext e8_5
            replace hTT := hTT.ext e8_5
            replace o5_7 := o5_7.ext e8_5
            replace o6_8 := o6_8.ext e8_5
            replace o7_5 := o7_5.ext e8_5
            replace o8_15 := o8_15.ext e8_5
            refine ⟨⟨hE, hK, hB1_0, hTT, o5_7, o6_8, o7_5, trivial⟩, ?_⟩
            refine H_op (i := 16) (by kernel_rfl) rfl rfl (D_callX (R_callF Try.call121 rfl rfl) (c121 w.heap.size _ v8_5 v8_15 [(by8 ((((f : Nat) : Int) / 2 ^ 8))), (by8 (((f : Nat) : Int)))] (oneSig (keyN n (1) ((f / 32)) ((f % 32))) x) _ hE.size (by simp only [List.length_append, flat_len, oneSig_len, hm1, hm2, List.length_cons, List.length_nil]; omega) (by simp only [oneSig_len, hm1, hm2]; omega) o8_5 (Ow.lev (lo' := _) o8_15 (fun _ _ _ => trivial))) (fun v8_16 w8_16 p8_16 => ?_))
            obtain ⟨g8_16, o8_16, sp8_16⟩ := p8_16
            replace hE := hE.grown g8_16 (fun k hk => own_ge o8_5 hk)
            replace hK := hK.grown g8_16 (own_neB o8_5 hK rfl)
            replace hB1_0 := hB1_0.grown g8_16 (own_neB o8_5 hB1_0 rfl)
            replace hTT := own_trivL (lo := w.heap.size) (own_grown hTT.1 g8_16 (own_ne hTT.1 o8_5 rfl))
            replace o5_7 := own_trivL (lo := w.heap.size) (own_grown o5_7.1 g8_16 (own_ne o5_7.1 o8_5 rfl))
            replace o6_8 := own_trivL (lo := w.heap.size) (own_grown o6_8.1 g8_16 (own_ne o6_8.1 o8_5 rfl))
            replace o7_5 := own_trivL (lo := w.heap.size) (own_grown o7_5.1 g8_16 (own_ne o7_5.1 o8_5 rfl))
            replace o8_15 := own_trivL (lo := w.heap.size) (own_grown o8_15.1 g8_16 (own_ne o8_15.1 o8_5 rfl))
            refine ⟨⟨hE, hK, hB1_0, hTT, o5_7, o6_8, o7_5, trivial⟩, ?_⟩
            refine H_op (i := 18) (by kernel_rfl) rfl rfl (D_callX (R_callF Try.call121 rfl rfl) (c121 w.heap.size _ v8_16 q6_8 ([(by8 ((((f : Nat) : Int) / 2 ^ 8))), (by8 (((f : Nat) : Int)))] ++ ((oneSig (keyN n (1) ((f / 32)) ((f % 32))) x)).flatMap Nm.b) (mpath 32 ((leavesN n (1) ((f / 32)))) ((f % 32))) _ hE.size (by simp only [List.length_append, flat_len, oneSig_len, hm1, hm2, List.length_cons, List.length_nil]; omega) (by simp only [oneSig_len, hm1, hm2]; omega) o8_16 (Ow.lev (lo' := _) o6_8 (fun _ _ _ => trivial))) (fun v8_18 w8_18 p8_18 => ?_))
            obtain ⟨g8_18, o8_18, sp8_18⟩ := p8_18
            replace hE := hE.grown g8_18 (fun k hk => own_ge o8_16 hk)
            replace hK := hK.grown g8_18 (own_neB o8_16 hK rfl)
            replace hB1_0 := hB1_0.grown g8_18 (own_neB o8_16 hB1_0 rfl)
            replace hTT := own_trivL (lo := w.heap.size) (own_grown hTT.1 g8_18 (own_ne hTT.1 o8_16 rfl))
            replace o5_7 := own_trivL (lo := w.heap.size) (own_grown o5_7.1 g8_18 (own_ne o5_7.1 o8_16 rfl))
            replace o6_8 := own_trivL (lo := w.heap.size) (own_grown o6_8.1 g8_18 (own_ne o6_8.1 o8_16 rfl))
            replace o7_5 := own_trivL (lo := w.heap.size) (own_grown o7_5.1 g8_18 (own_ne o7_5.1 o8_16 rfl))
            replace o8_15 := own_trivL (lo := w.heap.size) (own_grown o8_15.1 g8_18 (own_ne o8_15.1 o8_16 rfl))
            refine ⟨⟨hE, hK, hB1_0, hTT, o5_7, o6_8, o7_5, trivial⟩, ?_⟩
            refine H_take (i := 19) rfl (by kernel_rfl) (by kernel_rfl) (by kernel_rfl) rfl pq_cut ⟨hE, hK, hB1_0, hTT, o5_7, o6_8, o7_5, trivial⟩ rfl (fun w hw => R_assign rfl) ?_
            refine H_done (by kernel_rfl) ?_
            exact ⟨rfl, _, rfl, _, _, rfl, rfl, rfl, rfl, hE, hB1_0, hK, hTT, o7_5, o5_7, o8_18, zT_v8_15, zq6_8_v8_15, zq7_5_v8_15, zv5_7_v8_15, yv8_15_B1_0, zv8_15_T, zv8_15_q6_8, zv8_15_q7_5, zv8_15_v5_7⟩
      rintro f8 w8c ⟨v8_15, v8_18, q0, q8, q11, q13, hE, hB1_0, hK, oT, o7_5, o5_7, o8_18, zT_v8_15, zq6_8_v8_15, zq7_5_v8_15, zv5_7_v8_15, yv8_15_B1_0, zv8_15_T, zv8_15_q6_8, zv8_15_q7_5, zv8_15_v5_7⟩
      refine T_tn ?_
      refine wp_seq ?_
      refine W_cut (R := fun g W => ∃ (v9_17 : Value), (g 6 = v9_17) ∧ (g 7 = .bool true) ∧ Chg aK w W ∧ Blk W aK ((kyL n T (nils.set ((f / 32)) v5_7))) 159 ∧ Ow cN w.heap.size lT W T (leavesN n 2 0) ∧ Ow cN w.heap.size w.heap.size W v5_7 (leavesN n (1) ((f / 32))) ∧ OwnB W w.heap.size v9_17 (((([(by8 ((((f : Nat) : Int) / 2 ^ 8))), (by8 (((f : Nat) : Int)))] ++ ((oneSig (keyN n (1) ((f / 32)) ((f % 32))) x)).flatMap Nm.b) ++ ((mpath 32 ((leavesN n (1) ((f / 32)))) ((f % 32)))).flatMap Nm.b) ++ ((oneSig (keyN n (2) (0) ((f / 32))) (mroot 32 ((leavesN n (1) ((f / 32))))))).flatMap Nm.b) ++ ((mpath 32 ((leavesN n 2 0)) ((f / 32)))).flatMap Nm.b)) ?_ ?_
      ·
        refine W_held (fun W => Chg aK w W ∧ Blk W aK ((kyL n T (nils.set ((f / 32)) v5_7))) 159 ∧ Ow cN w.heap.size lT W T (leavesN n 2 0) ∧ Ow cN w.heap.size w.heap.size W q7_5 (mpath 32 ((leavesN n 2 0)) ((f / 32))) ∧ Ow cN w.heap.size w.heap.size W v5_7 (leavesN n (1) ((f / 32))) ∧ True) mixed (fun w9_99 e9_99 => ?_)
        replace hE := hE.trans e9_99
        replace hK := hK.ext e9_99
        replace oT := oT.ext e9_99
        replace o7_5 := o7_5.ext e9_99
        replace o5_7 := o5_7.ext e9_99
        replace o8_18 := o8_18.ext e9_99
        refine H_take (i := 0) rfl (by kernel_rfl) (by kernel_rfl) (by kernel_rfl) rfl pq_cut ⟨hE, hK, oT, o7_5, o5_7, trivial⟩ rfl (fun w hw => R_move q13) ?_
        refine H_take (i := 1) rfl (by kernel_rfl) (by kernel_rfl) (by kernel_rfl) rfl pq_cut ⟨hE, hK, oT, o7_5, o5_7, trivial⟩ rfl (fun w hw => R_move q0) ?_
        refine H_take (i := 2) rfl (by kernel_rfl) (by kernel_rfl) (by kernel_rfl) rfl pq_cut ⟨hE, hK, oT, o7_5, o5_7, trivial⟩ rfl (fun w hw => R_nilCheck rfl) ?_
        refine H_take (i := 3) rfl (by kernel_rfl) (by kernel_rfl) (by kernel_rfl) rfl pq_cut ⟨hE, hK, oT, o7_5, o5_7, trivial⟩ rfl (fun w hw => R_fieldAddr Try.runUnderlying159 rfl Try.sizeOf24 rfl) ?_
        refine H_take (i := 4) rfl (by kernel_rfl) (by kernel_rfl) (by kernel_rfl) rfl pq_cut ⟨hE, hK, oT, o7_5, o5_7, trivial⟩ rfl (fun w hw => R_loadA (c := (n).l) Try.isAgg24 Try.sizeOf24 hw.2.1 rfl rfl (ky_ble _ _ _)) ?_
        refine H_take (i := 5) rfl (by kernel_rfl) (by kernel_rfl) (by kernel_rfl) rfl pq_cut ⟨hE, hK, oT, o7_5, o5_7, trivial⟩ rfl (fun w hw => R_move q8) ?_
        refine H_take (i := 7) rfl (by kernel_rfl) (by kernel_rfl) (by kernel_rfl) rfl pq_cut ⟨hE, hK, oT, o7_5, o5_7, trivial⟩ rfl (fun w hw => R_move q0) ?_
        refine H_take (i := 8) rfl (by kernel_rfl) (by kernel_rfl) (by kernel_rfl) rfl pq_cut ⟨hE, hK, oT, o7_5, o5_7, trivial⟩ rfl (fun w hw => R_move q8) ?_
        refine H_take (i := 9) rfl (by kernel_rfl) (by kernel_rfl) (by kernel_rfl) rfl pq_cut ⟨hE, hK, oT, o7_5, o5_7, trivial⟩ rfl (fun w hw => R_nilCheck rfl) ?_
        refine H_take (i := 10) rfl (by kernel_rfl) (by kernel_rfl) (by kernel_rfl) rfl pq_cut ⟨hE, hK, oT, o7_5, o5_7, trivial⟩ rfl (fun w hw => R_fieldAddr Try.runUnderlying159 rfl Try.sizeOf157 rfl) ?_
        refine H_take (i := 11) rfl (by kernel_rfl) (by kernel_rfl) (by kernel_rfl) rfl pq_cut ⟨hE, hK, oT, o7_5, o5_7, trivial⟩ rfl (fun w hw => R_ixBot (t := (f / 32)) rfl rfl (by omega)) ?_
        refine H_take (i := 16) rfl (by kernel_rfl) (by kernel_rfl) (by kernel_rfl) rfl pq_cut ⟨hE, hK, oT, o7_5, o5_7, trivial⟩ rfl (fun w hw => R_move q11) ?_
        refine H_op2 (i := 6) (i2 := 12) (by kernel_rfl) rfl rfl rfl rfl ?_ ?_
        ·
          refine D_call (R_callF Try.call123 rfl rfl) (c123 (n) (2) (0) ((f / 32)) _) (fun w9_6 e9_6 => ?_)
          replace hE := hE.trans e9_6
          replace hK := hK.ext e9_6
          replace oT := oT.ext e9_6
          replace o7_5 := o7_5.ext e9_6
          replace o5_7 := o5_7.ext e9_6
          replace o8_18 := o8_18.ext e9_6
          refine ⟨⟨hE, hK, oT, o7_5, o5_7, trivial⟩, ?_⟩
          refine H_op (i := 12) (by kernel_rfl) rfl rfl (D_v (R_load Try.isAgg45 hK rfl (ky_at (nset_at (t := (f / 32)) (by omega)))) ⟨⟨hE, hK, oT, o7_5, o5_7, trivial⟩, ?_⟩)
          refine H_op (i := 13) (by kernel_rfl) rfl rfl (D_call (R_callF Try.call140 rfl rfl) (c140 32 v5_7 ((leavesN n (1) ((f / 32)))) _ (by rw [leavesN_len]; omega) (by rw [leavesN_len]; omega) (by rw [leavesN_len]; omega) (o5_7.ls.lev fun _ _ _ => trivial)) (fun w9_13 e9_13 => ?_))
          replace hE := hE.trans e9_13
          replace hK := hK.ext e9_13
          replace oT := oT.ext e9_13
          replace o7_5 := o7_5.ext e9_13
          replace o5_7 := o5_7.ext e9_13
          replace o8_18 := o8_18.ext e9_13
          refine ⟨⟨hE, hK, oT, o7_5, o5_7, trivial⟩, ?_⟩
          refine H_op (i := 14) (by kernel_rfl) rfl rfl (D_callE (R_callF Try.call122 rfl rfl) (c122 ((keyN n (2) (0) ((f / 32)))) ((mroot 32 ((leavesN n (1) ((f / 32)))))) _) (fun v9_14 w9_14 e9_14 p9_14 => ?_))
          have o9_14 := p9_14
          have zT_v9_14 := own_apart oT.1 o9_14.1
          have zv9_14_T := fun k hk hk2 => zT_v9_14 k hk2 hk
          have zq7_5_v9_14 := own_apart o7_5.1 o9_14.1
          have zv9_14_q7_5 := fun k hk hk2 => zq7_5_v9_14 k hk2 hk
          have zv5_7_v9_14 := own_apart o5_7.1 o9_14.1
          have zv9_14_v5_7 := fun k hk hk2 => zv5_7_v9_14 k hk2 hk
          replace o9_14 := o9_14.low hE.size
          replace o9_14 := Ow.lev (lo' := w.heap.size) o9_14 (fun _ _ _ => trivial)
          replace hE := hE.trans e9_14
          replace hK := hK.ext e9_14
          replace oT := oT.ext e9_14
          replace o7_5 := o7_5.ext e9_14
          replace o5_7 := o5_7.ext e9_14
          replace o8_18 := o8_18.ext e9_14
          refine ⟨⟨hE, hK, oT, o7_5, o5_7, trivial⟩, ?_⟩
          refine H_op (i := 15) (by kernel_rfl) rfl rfl (D_callX (R_callF Try.call121 rfl rfl) (c121 w.heap.size _ v8_18 v9_14 (([(by8 ((((f : Nat) : Int) / 2 ^ 8))), (by8 (((f : Nat) : Int)))] ++ ((oneSig (keyN n (1) ((f / 32)) ((f % 32))) x)).flatMap Nm.b) ++ ((mpath 32 ((leavesN n (1) ((f / 32)))) ((f % 32)))).flatMap Nm.b) (oneSig (keyN n (2) (0) ((f / 32))) (mroot 32 ((leavesN n (1) ((f / 32)))))) _ hE.size (by simp only [List.length_append, flat_len, oneSig_len, hm1, hm2, List.length_cons, List.length_nil]; omega) (by simp only [oneSig_len, hm1, hm2]; omega) o8_18 (Ow.lev (lo' := _) o9_14 (fun _ _ _ => trivial))) (fun v9_15 w9_15 p9_15 => ?_))
          obtain ⟨g9_15, o9_15, sp9_15⟩ := p9_15
          replace hE := hE.grown g9_15 (fun k hk => own_ge o8_18 hk)
          replace hK := hK.grown g9_15 (own_neB o8_18 hK rfl)
          replace oT := own_trivL (lo := w.heap.size) (own_grown oT.1 g9_15 (own_ne oT.1 o8_18 rfl))
          replace o7_5 := own_trivL (lo := w.heap.size) (own_grown o7_5.1 g9_15 (own_ne o7_5.1 o8_18 rfl))
          replace o5_7 := own_trivL (lo := w.heap.size) (own_grown o5_7.1 g9_15 (own_ne o5_7.1 o8_18 rfl))
          replace o9_14 := own_trivL (lo := w.heap.size) (own_grown o9_14.1 g9_15 (own_ne o9_14.1 o8_18 rfl))
          refine ⟨⟨hE, hK, oT, o7_5, o5_7, trivial⟩, ?_⟩
          refine H_op (i := 17) (by kernel_rfl) rfl rfl (D_callX (R_callF Try.call121 rfl rfl) (c121 w.heap.size _ v9_15 q7_5 ((([(by8 ((((f : Nat) : Int) / 2 ^ 8))), (by8 (((f : Nat) : Int)))] ++ ((oneSig (keyN n (1) ((f / 32)) ((f % 32))) x)).flatMap Nm.b) ++ ((mpath 32 ((leavesN n (1) ((f / 32)))) ((f % 32)))).flatMap Nm.b) ++ ((oneSig (keyN n (2) (0) ((f / 32))) (mroot 32 ((leavesN n (1) ((f / 32))))))).flatMap Nm.b) (mpath 32 ((leavesN n 2 0)) ((f / 32))) _ hE.size (by simp only [List.length_append, flat_len, oneSig_len, hm1, hm2, List.length_cons, List.length_nil]; omega) (by simp only [oneSig_len, hm1, hm2]; omega) o9_15 (Ow.lev (lo' := _) o7_5 (fun _ _ _ => trivial))) (fun v9_17 w9_17 p9_17 => ?_))
          obtain ⟨g9_17, o9_17, sp9_17⟩ := p9_17
          replace hE := hE.grown g9_17 (fun k hk => own_ge o9_15 hk)
          replace hK := hK.grown g9_17 (own_neB o9_15 hK rfl)
          replace oT := own_trivL (lo := w.heap.size) (own_grown oT.1 g9_17 (own_ne oT.1 o9_15 rfl))
          replace o7_5 := own_trivL (lo := w.heap.size) (own_grown o7_5.1 g9_17 (own_ne o7_5.1 o9_15 rfl))
          replace o5_7 := own_trivL (lo := w.heap.size) (own_grown o5_7.1 g9_17 (own_ne o5_7.1 o9_15 rfl))
          replace o9_14 := own_trivL (lo := w.heap.size) (own_grown o9_14.1 g9_17 (own_ne o9_14.1 o9_15 rfl))
          refine ⟨⟨hE, hK, oT, o7_5, o5_7, trivial⟩, ?_⟩
          refine H_take (i := 18) rfl (by kernel_rfl) (by kernel_rfl) (by kernel_rfl) rfl pq_cut ⟨hE, hK, oT, o7_5, o5_7, trivial⟩ rfl (fun w hw => R_assign rfl) ?_
          refine H_take (i := 19) rfl (by kernel_rfl) (by kernel_rfl) (by kernel_rfl) rfl pq_cut ⟨hE, hK, oT, o7_5, o5_7, trivial⟩ rfl (fun w hw => R_assign rfl) ?_
          refine H_done (by kernel_rfl) ?_
          exact ⟨rfl, _, rfl, _, rfl, rfl, hE, hK, oT, o5_7, o9_17⟩
        ·
          refine D_v (R_load Try.isAgg45 hK rfl (ky_at (nset_at (t := (f / 32)) (by omega)))) ⟨⟨hE, hK, oT, o7_5, o5_7, trivial⟩, ?_⟩
          refine H_op (i := 6) (by kernel_rfl) rfl rfl (D_call (R_callF Try.call123 rfl rfl) (c123 (n) (2) (0) ((f / 32)) _) (fun w9_6 e9_6 => ?_))
          replace hE := hE.trans e9_6
          replace hK := hK.ext e9_6
          replace oT := oT.ext e9_6
          replace o7_5 := o7_5.ext e9_6
          replace o5_7 := o5_7.ext e9_6
          replace o8_18 := o8_18.ext e9_6
          refine ⟨⟨hE, hK, oT, o7_5, o5_7, trivial⟩, ?_⟩
          refine H_op (i := 13) (by kernel_rfl) rfl rfl (D_call (R_callF Try.call140 rfl rfl) (c140 32 v5_7 ((leavesN n (1) ((f / 32)))) _ (by rw [leavesN_len]; omega) (by rw [leavesN_len]; omega) (by rw [leavesN_len]; omega) (o5_7.ls.lev fun _ _ _ => trivial)) (fun w9_13 e9_13 => ?_))
          replace hE := hE.trans e9_13
          replace hK := hK.ext e9_13
          replace oT := oT.ext e9_13
          replace o7_5 := o7_5.ext e9_13
          replace o5_7 := o5_7.ext e9_13
          replace o8_18 := o8_18.ext e9_13
          refine ⟨⟨hE, hK, oT, o7_5, o5_7, trivial⟩, ?_⟩
          refine H_op (i := 14) (by kernel_rfl) rfl rfl (D_callE (R_callF Try.call122 rfl rfl) (c122 ((keyN n (2) (0) ((f / 32)))) ((mroot 32 ((leavesN n (1) ((f / 32)))))) _) (fun v9_14 w9_14 e9_14 p9_14 => ?_))
          have o9_14 := p9_14
          have zT_v9_14 := own_apart oT.1 o9_14.1
          have zv9_14_T := fun k hk hk2 => zT_v9_14 k hk2 hk
          have zq7_5_v9_14 := own_apart o7_5.1 o9_14.1
          have zv9_14_q7_5 := fun k hk hk2 => zq7_5_v9_14 k hk2 hk
          have zv5_7_v9_14 := own_apart o5_7.1 o9_14.1
          have zv9_14_v5_7 := fun k hk hk2 => zv5_7_v9_14 k hk2 hk
          replace o9_14 := o9_14.low hE.size
          replace o9_14 := Ow.lev (lo' := w.heap.size) o9_14 (fun _ _ _ => trivial)
          replace hE := hE.trans e9_14
          replace hK := hK.ext e9_14
          replace oT := oT.ext e9_14
          replace o7_5 := o7_5.ext e9_14
          replace o5_7 := o5_7.ext e9_14
          replace o8_18 := o8_18.ext e9_14
          refine ⟨⟨hE, hK, oT, o7_5, o5_7, trivial⟩, ?_⟩
          refine H_op (i := 15) (by kernel_rfl) rfl rfl (D_callX (R_callF Try.call121 rfl rfl) (c121 w.heap.size _ v8_18 v9_14 (([(by8 ((((f : Nat) : Int) / 2 ^ 8))), (by8 (((f : Nat) : Int)))] ++ ((oneSig (keyN n (1) ((f / 32)) ((f % 32))) x)).flatMap Nm.b) ++ ((mpath 32 ((leavesN n (1) ((f / 32)))) ((f % 32)))).flatMap Nm.b) (oneSig (keyN n (2) (0) ((f / 32))) (mroot 32 ((leavesN n (1) ((f / 32)))))) _ hE.size (by simp only [List.length_append, flat_len, oneSig_len, hm1, hm2, List.length_cons, List.length_nil]; omega) (by simp only [oneSig_len, hm1, hm2]; omega) o8_18 (Ow.lev (lo' := _) o9_14 (fun _ _ _ => trivial))) (fun v9_15 w9_15 p9_15 => ?_))
          obtain ⟨g9_15, o9_15, sp9_15⟩ := p9_15
          replace hE := hE.grown g9_15 (fun k hk => own_ge o8_18 hk)
          replace hK := hK.grown g9_15 (own_neB o8_18 hK rfl)
          replace oT := own_trivL (lo := w.heap.size) (own_grown oT.1 g9_15 (own_ne oT.1 o8_18 rfl))
          replace o7_5 := own_trivL (lo := w.heap.size) (own_grown o7_5.1 g9_15 (own_ne o7_5.1 o8_18 rfl))
          replace o5_7 := own_trivL (lo := w.heap.size) (own_grown o5_7.1 g9_15 (own_ne o5_7.1 o8_18 rfl))
          replace o9_14 := own_trivL (lo := w.heap.size) (own_grown o9_14.1 g9_15 (own_ne o9_14.1 o8_18 rfl))
          refine ⟨⟨hE, hK, oT, o7_5, o5_7, trivial⟩, ?_⟩
          refine H_op (i := 17) (by kernel_rfl) rfl rfl (D_callX (R_callF Try.call121 rfl rfl) (c121 w.heap.size _ v9_15 q7_5 ((([(by8 ((((f : Nat) : Int) / 2 ^ 8))), (by8 (((f : Nat) : Int)))] ++ ((oneSig (keyN n (1) ((f / 32)) ((f % 32))) x)).flatMap Nm.b) ++ ((mpath 32 ((leavesN n (1) ((f / 32)))) ((f % 32)))).flatMap Nm.b) ++ ((oneSig (keyN n (2) (0) ((f / 32))) (mroot 32 ((leavesN n (1) ((f / 32))))))).flatMap Nm.b) (mpath 32 ((leavesN n 2 0)) ((f / 32))) _ hE.size (by simp only [List.length_append, flat_len, oneSig_len, hm1, hm2, List.length_cons, List.length_nil]; omega) (by simp only [oneSig_len, hm1, hm2]; omega) o9_15 (Ow.lev (lo' := _) o7_5 (fun _ _ _ => trivial))) (fun v9_17 w9_17 p9_17 => ?_))
          obtain ⟨g9_17, o9_17, sp9_17⟩ := p9_17
          replace hE := hE.grown g9_17 (fun k hk => own_ge o9_15 hk)
          replace hK := hK.grown g9_17 (own_neB o9_15 hK rfl)
          replace oT := own_trivL (lo := w.heap.size) (own_grown oT.1 g9_17 (own_ne oT.1 o9_15 rfl))
          replace o7_5 := own_trivL (lo := w.heap.size) (own_grown o7_5.1 g9_17 (own_ne o7_5.1 o9_15 rfl))
          replace o5_7 := own_trivL (lo := w.heap.size) (own_grown o5_7.1 g9_17 (own_ne o5_7.1 o9_15 rfl))
          replace o9_14 := own_trivL (lo := w.heap.size) (own_grown o9_14.1 g9_17 (own_ne o9_14.1 o9_15 rfl))
          refine ⟨⟨hE, hK, oT, o7_5, o5_7, trivial⟩, ?_⟩
          refine H_take (i := 18) rfl (by kernel_rfl) (by kernel_rfl) (by kernel_rfl) rfl pq_cut ⟨hE, hK, oT, o7_5, o5_7, trivial⟩ rfl (fun w hw => R_assign rfl) ?_
          refine H_take (i := 19) rfl (by kernel_rfl) (by kernel_rfl) (by kernel_rfl) rfl pq_cut ⟨hE, hK, oT, o7_5, o5_7, trivial⟩ rfl (fun w hw => R_assign rfl) ?_
          refine H_done (by kernel_rfl) ?_
          exact ⟨rfl, _, rfl, _, rfl, rfl, hE, hK, oT, o5_7, o9_17⟩
      rintro f9 w9c ⟨v9_17, q6, q7, hE, hK, oT, o5_7, o9_17⟩
      refine T_tn ?_
      refine wp_ret ?_
      refine ret2 (v := v9_17) (v2 := .bool true) rfl q6 q7 ⟨_, rfl, hE, v9_17, ?_, ?_⟩
      · rw [rng_in hf]
      · rw [sig_in2 n x hf]; exact o9_17
    ·
      exfalso; revert c2; decide
set_option maxRecDepth 4000 in
set_option maxHeartbeats 2000000 in
theorem c94 (n : Nm) (I : Int) (x : Nm) (w : World) : Calls Try.prog 94 [n.v, i64 2, i64 I, x.v].toArray w (RetE w fun r w' => ∃ q, r = .tuple #[q, .bool (decide (0 ≤ I) && decide (I < 1024))] ∧ OwnB w' w.heap.size q (sigI n I x)) := by
  refine enter Try.func94 Try.ntmps94 rfl rfl ?_
  have hE := Ext.refl w
  refine wp_seq ?_
  refine W_region ?_
  refine L (D_box (c := (n).l) (rfl) (fun aB1_0 w1_0 e1_0 gB1_0 hB1_0 => ?_))
  have lB1_0 := Nat.le_trans hE.size gB1_0
  replace hE := hE.trans e1_0
  refine L (D_box (c := (x).l) (rfl) (fun aB1_1 w1_1 e1_1 gB1_1 hB1_1 => ?_))
  have lB1_1 := Nat.le_trans hE.size gB1_1
  have nB1_0B1_1 := hB1_0.ne gB1_1
  replace hE := hE.trans e1_1
  replace hB1_0 := hB1_0.ext e1_1
  refine L (D_v (R_assign rfl) ?_)
  refine L (D_v (R_assign rfl) ?_)
  refine S_nil ?_
  refine T_tn ?_
  refine wp_seq ?_
  refine wp_seq ?_
  refine W_region ?_
  refine L (D_v (R_move rfl) ?_)
  refine L (D_v (R_cast (v' := .bool true) (R_eqlI rfl rfl) rfl) ?_)
  refine S_nil ?_
  refine T_tn ?_
  refine W_ift rfl ?_
  refine wp_seq ?_
  refine W_held (fun W => Ext w W ∧ Blk W aB1_0 ((n).l) 24 ∧ Blk W aB1_1 ((x).l) 24 ∧ True) mixed (fun w3_99 e3_99 => ?_)
  replace hE := hE.trans e3_99
  replace hB1_0 := hB1_0.ext e3_99
  replace hB1_1 := hB1_1.ext e3_99
  refine H_take (i := 0) rfl (by kernel_rfl) (by kernel_rfl) (by kernel_rfl) rfl (pq_then (pq_then pq_body)) ⟨hE, hB1_0, hB1_1, trivial⟩ rfl (fun w hw => R_loadA (c := (n).l) Try.isAgg24 Try.sizeOf24 hw.2.1 rfl rfl rfl) ?_
  refine H_take (i := 2) rfl (by kernel_rfl) (by kernel_rfl) (by kernel_rfl) rfl (pq_then (pq_then pq_body)) ⟨hE, hB1_0, hB1_1, trivial⟩ rfl (fun w hw => R_move rfl) ?_
  refine H_take (i := 3) rfl (by kernel_rfl) (by kernel_rfl) (by kernel_rfl) rfl (pq_then (pq_then pq_body)) ⟨hE, hB1_0, hB1_1, trivial⟩ rfl (fun w hw => R_loadA (c := (x).l) Try.isAgg24 Try.sizeOf24 hw.2.2.1 rfl rfl rfl) ?_
  refine H_op (i := 1) (by kernel_rfl) rfl rfl (D_callE (R_callF Try.call117 rfl rfl) (c117 (n) _) (fun v3_1 w3_1 e3_1 p3_1 => ?_))
  obtain ⟨aK3_1, T3_1, rfl, gK3_1, hK3_1, o3_1⟩ := p3_1
  have yT3_1_B1_0 : Value.ownBlock T3_1 ≠ some aB1_0 := fun hk => absurd (own_ge o3_1.1 hk) (Nat.not_le.2 hB1_0.lt)
  have yT3_1_B1_1 : Value.ownBlock T3_1 ≠ some aB1_1 := fun hk => absurd (own_ge o3_1.1 hk) (Nat.not_le.2 hB1_1.lt)
  replace o3_1 := o3_1.low hE.size
  replace o3_1 := Ow.lev (lo' := w.heap.size) o3_1 (fun _ _ _ => trivial)
  have lK3_1 := Nat.le_trans hE.size gK3_1
  have nB1_0K3_1 := hB1_0.ne gK3_1
  have nB1_1K3_1 := hB1_1.ne gK3_1
  replace hE := hE.trans e3_1
  replace hB1_0 := hB1_0.ext e3_1
  replace hB1_1 := hB1_1.ext e3_1
  refine ⟨⟨hE, hB1_0, hB1_1, trivial⟩, ?_⟩
  refine H_op (i := 4) (by kernel_rfl) rfl rfl (D_callX (R_callF Try.call118 rfl rfl) (c118 (n) aK3_1 T3_1 _ (I) (x) _ hK3_1 (Ow.lev (lo' := _) o3_1 (fun _ _ _ => trivial))) (fun v3_4 w3_4 p3_4 => ?_))
  obtain ⟨e3_4, q3_4, rfl, o3_4⟩ := p3_4
  have hsz := hE.size
  replace hE := hE.chg e3_4 lK3_1
  replace hB1_0 := hB1_0.chg e3_4 nB1_0K3_1
  replace hB1_1 := hB1_1.chg e3_4 nB1_1K3_1
  replace o3_4 := OwnB.lo o3_4 hsz
  refine ⟨⟨hE, hB1_0, hB1_1, trivial⟩, ?_⟩
  refine H_take (i := 5) rfl (by kernel_rfl) (by kernel_rfl) (by kernel_rfl) rfl (pq_then (pq_then pq_body)) ⟨hE, hB1_0, hB1_1, trivial⟩ rfl (fun w hw => R_extract rfl rfl) ?_
  refine H_take (i := 6) rfl (by kernel_rfl) (by kernel_rfl) (by kernel_rfl) rfl (pq_then (pq_then pq_body)) ⟨hE, hB1_0, hB1_1, trivial⟩ rfl (fun w hw => R_extract rfl rfl) ?_
  refine H_take (i := 7) rfl (by kernel_rfl) (by kernel_rfl) (by kernel_rfl) rfl (pq_then (pq_then pq_body)) ⟨hE, hB1_0, hB1_1, trivial⟩ rfl (fun w hw => R_assign rfl) ?_
  refine H_take (i := 8) rfl (by kernel_rfl) (by kernel_rfl) (by kernel_rfl) rfl (pq_then (pq_then pq_body)) ⟨hE, hB1_0, hB1_1, trivial⟩ rfl (fun w hw => R_assign rfl) ?_
  refine H_done (by kernel_rfl) ?_
  refine T_tn ?_
  refine wp_ret ?_
  refine T_tr ?_
  refine ret2 (v := q3_4) (v2 := .bool _) rfl rfl rfl ⟨_, rfl, hE, ?_⟩
  exact ⟨_, rfl, o3_4⟩
set_option maxRecDepth 4000 in
set_option maxHeartbeats 2000000 in
theorem c54 (n : Nm) (I : Int) (x : Vt) (w : World) : Calls Try.prog 54 [n.v, i64 I, x.v].toArray w (RetE w fun r w' => ∃ y : Sg, r = .tuple #[y.v, .bool (okL x I)] ∧ y.p = sgP n I x ∧ y.okf 0 w') := by
  refine enter Try.func54 Try.ntmps54 rfl rfl ?_
  have hE := Ext.refl w
  refine wp_seq ?_
  refine W_region ?_
  refine L (D_box (c := (n).l) (rfl) (fun aB1_0 w1_0 e1_0 gB1_0 hB1_0 => ?_))
  have lB1_0 := Nat.le_trans hE.size gB1_0
  replace hE := hE.trans e1_0
  refine L (D_box (c := (x).l) (rfl) (fun aB1_1 w1_1 e1_1 gB1_1 hB1_1 => ?_))
  have lB1_1 := Nat.le_trans hE.size gB1_1
  have nB1_0B1_1 := hB1_0.ne gB1_1
  replace hE := hE.trans e1_1
  replace hB1_0 := hB1_0.ext e1_1
  refine L (D_alloc (c := (Sg.zero).l) Try.zeroValue53 rfl (fun aB1_2 w1_2 e1_2 gB1_2 hB1_2 => ?_))
  have lB1_2 := Nat.le_trans hE.size gB1_2
  have nB1_0B1_2 := hB1_0.ne gB1_2
  have nB1_1B1_2 := hB1_1.ne gB1_2
  replace hE := hE.trans e1_2
  replace hB1_0 := hB1_0.ext e1_2
  replace hB1_1 := hB1_1.ext e1_2
  refine L (D_v (R_assign rfl) ?_)
  refine S_nil ?_
  refine T_tn ?_
  refine wp_seq ?_
  refine wp_seq ?_
  refine W_region ?_
  refine L (D_v (R_loadA (c := (x).l) Try.isAgg26 Try.sizeOf26 hB1_1 rfl rfl rfl) ?_)
  refine L (D_call (R_callF Try.call27 rfl rfl) (c27 (x) _ ) (fun w2_1 e2_1 => ?_))
  replace hE := hE.trans e2_1
  replace hB1_0 := hB1_0.ext e2_1
  replace hB1_1 := hB1_1.ext e2_1
  replace hB1_2 := hB1_2.ext e2_1
  refine L (D_v (R_not rfl) ?_)
  refine S_nil ?_
  refine T_tn ?_
  refine W_if rfl (fun c1 => ?_) (fun c1 => ?_)
  ·
    have hok : okL x I = false := okL_nv c1
    refine wp_seq ?_
    refine W_region ?_
    refine L (D_v (R_buildS (c := Sg.zero.l) Try.runUnderlying53 places53 Try.zeroValue53 rfl rfl) ?_)
    have h0 := hB1_2
    refine L (D_storeA Try.sizeOf53 hB1_2 rfl rfl rfl rfl rfl (l' := (Sg.zero).l) rfl (fun w3_1 k3_1 hB1_2 => ?_))
    replace hE := hE.kp k3_1 lB1_2
    refine L (D_v (R_assign rfl) ?_)
    refine S_nil ?_
    refine T_tn ?_
    refine wp_ret ?_
    refine T_tr ?_
    refine retct (c := (Sg.zero).l) (v2 := .bool false) rfl rfl rfl Try.isAgg53 Try.sizeOf53 hB1_2 rfl rfl ⟨_, rfl, hE, ?_⟩
    rw [hok]; exact ⟨Sg.zero, rfl, (sgP_no hok).symm, Sg.okz 0 _⟩
  ·
    have hv : valid x = true := by simpa using c1
    have hw59 := hE.size
    refine wp_skip ?_
    refine T_tn ?_
    refine wp_seq ?_
    refine W_held (fun W => Ext w W ∧ Blk W aB1_0 ((n).l) 24 ∧ Blk W aB1_1 ((x).l) 26 ∧ Blk W aB1_2 ((Sg.zero).l) 53 ∧ True) mixed (fun w3_99 e3_99 => ?_)
    replace hE := hE.trans e3_99
    replace hB1_0 := hB1_0.ext e3_99
    replace hB1_1 := hB1_1.ext e3_99
    replace hB1_2 := hB1_2.ext e3_99
    refine H_take (i := 0) rfl (by kernel_rfl) (by kernel_rfl) (by kernel_rfl) rfl (pq_then pq_body) ⟨hE, hB1_0, hB1_1, hB1_2, trivial⟩ rfl (fun w hw => R_loadA (c := (n).l) Try.isAgg24 Try.sizeOf24 hw.2.1 rfl rfl rfl) ?_
    refine H_take (i := 1) rfl (by kernel_rfl) (by kernel_rfl) (by kernel_rfl) rfl (pq_then pq_body) ⟨hE, hB1_0, hB1_1, hB1_2, trivial⟩ rfl (fun w hw => R_move rfl) ?_
    refine H_take (i := 2) rfl (by kernel_rfl) (by kernel_rfl) (by kernel_rfl) rfl (pq_then pq_body) ⟨hE, hB1_0, hB1_1, hB1_2, trivial⟩ rfl (fun w hw => R_loadA (c := (x).l) Try.isAgg26 Try.sizeOf26 hw.2.2.1 rfl rfl rfl) ?_
    refine H_op (i := 3) (by kernel_rfl) rfl rfl (D_call (R_callF Try.call39 rfl rfl) (c39 (x) _) (fun w3_3 e3_3 => ?_))
    replace hE := hE.trans e3_3
    replace hB1_0 := hB1_0.ext e3_3
    replace hB1_1 := hB1_1.ext e3_3
    replace hB1_2 := hB1_2.ext e3_3
    refine ⟨⟨hE, hB1_0, hB1_1, hB1_2, trivial⟩, ?_⟩
    refine H_op (i := 4) (by kernel_rfl) rfl rfl (D_callE (R_callF Try.call94 rfl rfl) (c94 (n) (I) ((nameV x)) _) (fun v3_4 w3_4 e3_4 p3_4 => ?_))
    obtain ⟨q3_4, rfl, o3_4⟩ := p3_4
    replace o3_4 := o3_4.lo hE.size
    replace hE := hE.trans e3_4
    replace hB1_0 := hB1_0.ext e3_4
    replace hB1_1 := hB1_1.ext e3_4
    replace hB1_2 := hB1_2.ext e3_4
    refine ⟨⟨hE, hB1_0, hB1_1, hB1_2, trivial⟩, ?_⟩
    refine H_take (i := 5) rfl (by kernel_rfl) (by kernel_rfl) (by kernel_rfl) rfl (pq_then pq_body) ⟨hE, hB1_0, hB1_1, hB1_2, trivial⟩ rfl (fun w hw => R_move rfl) ?_
    refine H_take (i := 6) rfl (by kernel_rfl) (by kernel_rfl) (by kernel_rfl) rfl (pq_then pq_body) ⟨hE, hB1_0, hB1_1, hB1_2, trivial⟩ rfl (fun w hw => R_extract rfl rfl) ?_
    refine H_take (i := 7) rfl (by kernel_rfl) (by kernel_rfl) (by kernel_rfl) rfl (pq_then pq_body) ⟨hE, hB1_0, hB1_1, hB1_2, trivial⟩ rfl (fun w hw => R_extract rfl rfl) ?_
    refine H_take (i := 8) rfl (by kernel_rfl) (by kernel_rfl) (by kernel_rfl) rfl (pq_then pq_body) ⟨hE, hB1_0, hB1_1, hB1_2, trivial⟩ rfl (fun w hw => R_assign rfl) ?_
    refine H_take (i := 9) rfl (by kernel_rfl) (by kernel_rfl) (by kernel_rfl) rfl (pq_then pq_body) ⟨hE, hB1_0, hB1_1, hB1_2, trivial⟩ rfl (fun w hw => R_assign rfl) ?_
    refine H_done (by kernel_rfl) ?_
    refine T_tn ?_
    refine wp_seq ?_
    refine wp_seq ?_
    refine W_region ?_
    refine L (D_v (R_move rfl) ?_)
    refine L (D_v (R_not rfl) ?_)
    refine S_nil ?_
    refine T_tn ?_
    refine W_if rfl (fun c2 => ?_) (fun c2 => ?_)
    ·
      have hok : okL x I = false := okL_ni c2
      refine wp_seq ?_
      refine W_region ?_
      refine L (D_v (R_buildS (c := Sg.zero.l) Try.runUnderlying53 places53 Try.zeroValue53 rfl rfl) ?_)
      have h0 := hB1_2
      refine L (D_storeA Try.sizeOf53 hB1_2 rfl rfl rfl rfl rfl (l' := (Sg.zero).l) rfl (fun w5_1 k5_1 hB1_2 => ?_))
      replace hE := hE.kp k5_1 lB1_2
      refine L (D_v (R_assign rfl) ?_)
      refine S_nil ?_
      refine T_tn ?_
      refine wp_ret ?_
      refine T_tr ?_
      refine retct (c := (Sg.zero).l) (v2 := .bool false) rfl rfl rfl Try.isAgg53 Try.sizeOf53 hB1_2 rfl rfl ⟨_, rfl, hE, ?_⟩
      rw [hok]; exact ⟨Sg.zero, rfl, (sgP_no hok).symm, Sg.okz 0 _⟩
    ·
      have hok : okL x I = true := okL_y hv c2
      refine wp_skip ?_
      refine T_tn ?_
      refine wp_seq ?_
      refine W_region ?_
      refine L (D_v (R_loadA (c := (x).l) Try.isAgg26 Try.sizeOf26 hB1_1 rfl rfl rfl) ?_)
      refine L (D_v (R_move rfl) ?_)
      have k5_2 : Sg.okf w.heap.size w3_4 (mkSg (x) q3_4 (sigI n (I) ((nameV x)))) := mkSg_ok _ (Bf.own o3_4)
      refine L (D_v (R_buildS (vs := [(0, .agg (x).l.toArray), (1, q3_4)]) (c := (mkSg (x) q3_4 (sigI n (I) ((nameV x)))).l) Try.runUnderlying53 places53 Try.zeroValue53 (mapp2 rfl rfl) (fill53 _ o3_4.bs)) ?_)
      have xo3_4 := own_neB o3_4 hB1_2 rfl
      have h0 := hB1_2
      refine L (D_storeA Try.sizeOf53 hB1_2 rfl rfl rfl rfl rfl (l' := ((mkSg (x) q3_4 (sigI n (I) ((nameV x))))).l) rfl (fun w5_3 k5_3 hB1_2 => ?_))
      have f5_3 := Fb.kp k5_3 (Nat.le_trans (Nat.le_refl _) lB1_2) (Blk.notB h0 rfl)
      replace hE := hE.kp k5_3 lB1_2
      replace hB1_1 := hB1_1.kp k5_3 nB1_1B1_2
      replace o3_4 := o3_4.kp k5_3 xo3_4
      replace k5_2 := k5_2.fb f5_3
      refine L (D_v (R_assign rfl) ?_)
      refine S_nil ?_
      refine T_tn ?_
      refine wp_ret ?_
      refine retct (c := ((mkSg (x) q3_4 (sigI n (I) ((nameV x))))).l) (v2 := .bool true) rfl rfl rfl Try.isAgg53 Try.sizeOf53 hB1_2 rfl rfl ⟨_, rfl, hE, ?_⟩
      rw [hok]; exact ⟨(mkSg (x) q3_4 (sigI n (I) ((nameV x)))), rfl, (sgP_y hok).symm, mkSg_ok _ (Bf.own o3_4)⟩
end Go.Proofs.Yteeopgpgbdhmhaa
namespace Go.Proofs.Yteeopgpgbdhmhaa
open Go.RowKit
set_option linter.unusedVariables false
set_option linter.unusedSimpArgs false
attribute [local irreducible] wpList wpO H wpQuiet wpStill Code.wp Exit.then Exit.inBlock bodyPost Code.rounds Calls valid lessV hless num between
set_option maxRecDepth 4000 in
set_option maxHeartbeats 4000000 in
theorem c14 (n : Nm) (I : Int) (x : Vt) (w : World) : Calls Try.prog 14 [n.v, i64 I, x.v].toArray w (Ret w (.bool true)) := by
  refine enter Try.func14 Try.ntmps14 rfl rfl ?_
  have hE := Ext.refl w
  refine wp_seq ?_
  refine W_region ?_
  refine L (D_box (c := (n).l) (rfl) (fun aB1_0 w1_0 e1_0 gB1_0 hB1_0 => ?_))
  have lB1_0 := Nat.le_trans hE.size gB1_0
  replace hE := hE.trans e1_0
  refine L (D_box (c := (x).l) (rfl) (fun aB1_1 w1_1 e1_1 gB1_1 hB1_1 => ?_))
  have lB1_1 := Nat.le_trans hE.size gB1_1
  have nB1_0B1_1 := hB1_0.ne gB1_1
  replace hE := hE.trans e1_1
  replace hB1_0 := hB1_0.ext e1_1
  refine L (D_v (R_assign rfl) ?_)
  refine S_nil ?_
  refine T_tn ?_
  refine wp_seq ?_
  refine W_region ?_
  refine L (D_v (R_loadA (c := (n).l) Try.isAgg24 Try.sizeOf24 hB1_0 rfl rfl rfl) ?_)
  refine L (D_v (R_move rfl) ?_)
  refine L (D_v (R_loadA (c := (x).l) Try.isAgg26 Try.sizeOf26 hB1_1 rfl rfl rfl) ?_)
  refine L (D_callE (R_callF Try.call53 rfl rfl) (c53 (n) (I) (x) _) (fun v2_3 w2_3 e2_3 p2_3 => ?_))
  obtain ⟨y2_3, rfl, py2_3, k2_3⟩ := p2_3
  replace hE := hE.trans e2_3
  replace hB1_0 := hB1_0.ext e2_3
  replace hB1_1 := hB1_1.ext e2_3
  refine L (D_v (R_move rfl) ?_)
  refine L (D_v (R_extract rfl rfl) ?_)
  refine L (D_v (R_extract rfl rfl) ?_)
  refine L (D_alloc (c := (Sg.zero).l) Try.zeroValue53 rfl (fun aB2_7 w2_7 e2_7 gB2_7 hB2_7 => ?_))
  have lB2_7 := Nat.le_trans hE.size gB2_7
  have nB1_0B2_7 := hB1_0.ne gB2_7
  have nB1_1B2_7 := hB1_1.ne gB2_7
  replace hE := hE.trans e2_7
  replace hB1_0 := hB1_0.ext e2_7
  replace hB1_1 := hB1_1.ext e2_7
  replace k2_3 := k2_3.fb (Fb.ext e2_7)
  have h0 := hB2_7
  refine L (D_storeA Try.sizeOf53 hB2_7 rfl rfl rfl rfl rfl (l' := (y2_3).l) rfl (fun w2_8 k2_8 hB2_7 => ?_))
  have f2_8 := Fb.kp k2_8 (Nat.le_trans (Nat.le_refl _) lB2_7) (Blk.notB h0 rfl)
  replace hE := hE.kp k2_8 lB2_7
  replace hB1_0 := hB1_0.kp k2_8 nB1_0B2_7
  replace hB1_1 := hB1_1.kp k2_8 nB1_1B2_7
  replace k2_3 := k2_3.fb (Fb.kp k2_8 (Nat.zero_le _) (Blk.notB h0 rfl))
  refine L (D_v (R_assign rfl) ?_)
  refine S_nil ?_
  refine T_tn ?_
  refine wp_seq ?_
  refine W_region ?_
  refine L (D_v (R_loadA (c := (n).l) Try.isAgg24 Try.sizeOf24 hB1_0 rfl rfl rfl) ?_)
  refine L (D_v (R_move rfl) ?_)
  refine L (D_v (R_loadA (c := (x).l) Try.isAgg26 Try.sizeOf26 hB1_1 rfl rfl rfl) ?_)
  refine L (D_callE (R_callF Try.call54 rfl rfl) (c54 (n) (I) (x) _) (fun v3_3 w3_3 e3_3 p3_3 => ?_))
  obtain ⟨y3_3, rfl, py3_3, k3_3⟩ := p3_3
  replace hE := hE.trans e3_3
  replace hB1_0 := hB1_0.ext e3_3
  replace hB1_1 := hB1_1.ext e3_3
  replace hB2_7 := hB2_7.ext e3_3
  replace k2_3 := k2_3.fb (Fb.ext e3_3)
  refine L (D_v (R_move rfl) ?_)
  refine L (D_v (R_extract rfl rfl) ?_)
  refine L (D_v (R_extract rfl rfl) ?_)
  refine L (D_alloc (c := (Sg.zero).l) Try.zeroValue53 rfl (fun aB3_7 w3_7 e3_7 gB3_7 hB3_7 => ?_))
  have lB3_7 := Nat.le_trans hE.size gB3_7
  have nB1_0B3_7 := hB1_0.ne gB3_7
  have nB1_1B3_7 := hB1_1.ne gB3_7
  have nB2_7B3_7 := hB2_7.ne gB3_7
  replace hE := hE.trans e3_7
  replace hB1_0 := hB1_0.ext e3_7
  replace hB1_1 := hB1_1.ext e3_7
  replace hB2_7 := hB2_7.ext e3_7
  replace k2_3 := k2_3.fb (Fb.ext e3_7)
  replace k3_3 := k3_3.fb (Fb.ext e3_7)
  have h0 := hB3_7
  refine L (D_storeA Try.sizeOf53 hB3_7 rfl rfl rfl rfl rfl (l' := (y3_3).l) rfl (fun w3_8 k3_8 hB3_7 => ?_))
  have f3_8 := Fb.kp k3_8 (Nat.le_trans (Nat.le_refl _) lB3_7) (Blk.notB h0 rfl)
  replace hE := hE.kp k3_8 lB3_7
  replace hB1_0 := hB1_0.kp k3_8 nB1_0B3_7
  replace hB1_1 := hB1_1.kp k3_8 nB1_1B3_7
  replace hB2_7 := hB2_7.kp k3_8 nB2_7B3_7
  replace k2_3 := k2_3.fb (Fb.kp k3_8 (Nat.zero_le _) (Blk.notB h0 rfl))
  replace k3_3 := k3_3.fb (Fb.kp k3_8 (Nat.zero_le _) (Blk.notB h0 rfl))
  refine L (D_v (R_assign rfl) ?_)
  refine S_nil ?_
  refine T_tn ?_
  refine wp_seq ?_
  refine W_region ?_
  refine L (D_v (R_loadA (c := (y2_3).l) Try.isAgg53 Try.sizeOf53 hB2_7 rfl rfl rfl) ?_)
  refine L (D_v (R_loadA (c := (y3_3).l) Try.isAgg53 Try.sizeOf53 hB3_7 rfl rfl rfl) ?_)
  refine L (D_call (R_callF Try.call55 rfl rfl) (c55 (y2_3) (y3_3) _ ((k2_3.up (lo' := w.heap.size) (Nat.zero_le _)).up (Nat.le_trans (Nat.le_refl _) hE.size)) ((k3_3.up (lo' := w.heap.size) (Nat.zero_le _)).up (Nat.le_trans (Nat.le_refl _) hE.size))) (fun w4_2 e4_2 => ?_))
  replace hE := hE.trans e4_2
  replace hB2_7 := hB2_7.ext e4_2
  replace hB3_7 := hB3_7.ext e4_2
  replace k2_3 := k2_3.fb (Fb.ext e4_2)
  replace k3_3 := k3_3.fb (Fb.ext e4_2)
  refine L (D_v (R_move rfl) ?_)
  refine L (D_g1 rfl rfl (fun hb => R_move rfl) ?_)
  refine L (D_g1 rfl rfl (fun hb => R_move rfl) ?_)
  refine L (D_g1 rfl rfl (fun hb => R_eqlB Try.underlying4 (cgE hb) (cgE hb)) ?_)
  refine L (D_v (R_pickA rfl rfl rfl) ?_)
  refine L (D_v (R_move rfl) ?_)
  refine L (D_gc1 rfl rfl (fun hb => R_callF Try.call56 rfl rfl) (fun hb => c56 _) (fun w4_9 e4_9 => ?_))
  replace hE := hE.trans e4_9
  replace hB2_7 := hB2_7.ext e4_9
  replace hB3_7 := hB3_7.ext e4_9
  replace k2_3 := k2_3.fb (Fb.ext e4_9)
  replace k3_3 := k3_3.fb (Fb.ext e4_9)
  refine L (D_v (R_pickA rfl rfl rfl) ?_)
  refine L (D_v (R_assign rfl) ?_)
  refine S_nil ?_
  refine T_tn ?_
  refine wp_ret ?_
  refine ret1 (v := .bool _) rfl rfl ⟨congrArg (fun b => Ending.returned (Value.bool b)) ?_, hE⟩
  rw [py2_3, py3_3, sameS_refl]; cases okL x I <;> rfl
end Go.Proofs.Yteeopgpgbdhmhaa
