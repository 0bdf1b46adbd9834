/- Walks of the functions on bytes: SignedCanonical. No condition. Printed by wip/mkAA.py. -/
import Derived.Test.YteeopgpgbdhmhaaWZ
import Derived.Test.YteeopgpgbdhmhaaGn
namespace Go.Proofs.Yteeopgpgbdhmhaa
open Go.RowKit
set_option linter.unusedVariables false
set_option linter.unusedSimpArgs false
attribute [local irreducible] wpList wpO H wpQuiet wpStill Code.wp Exit.then Exit.inBlock bodyPost Code.rounds Calls valid sameKey conflict lessV hless num between
-- forkledger/forkledgerlaw8.SignedCanonical
set_option maxRecDepth 4000 in
set_option maxHeartbeats 4000000 in
theorem c15 (v : Value) (xs : List Sg) (by_ : Int) (w : World) (hz : SsInz w v xs) : Calls Try.prog 15 [v, i64 by_].toArray w (Ret w (.bool true)) := by
  refine enter Try.func15 Try.ntmps15 rfl rfl ?_
  have hE := Ext.refl w
  have h := hz.1.1
  obtain ⟨X, h2, hX2, hsx⟩ := cut200_X hz
  refine wp_seq ?_
  refine W_region ?_
  refine L (D_v (R_assign rfl) ?_)
  refine S_nil ?_
  refine T_tn ?_
  refine wp_seq ?_
  refine wp_seq ?_
  refine W_region ?_
  refine L (D_v (R_move rfl) ?_)
  refine L (D_v (R_len Try.underlying46 rfl (h.ext hE).1) ?_)
  refine L (D_v (R_gtrI rfl rfl) ?_)
  refine S_nil ?_
  refine T_tn ?_
  refine W_cut (R := fun g W => (g 0 = (cut200 v xs.length)) ∧ (g 1 = i64 by_) ∧ Ext w W) ?_ ?_
  ·
    refine W_if rfl (fun c1 => ?_) (fun c1 => ?_)
    ·
      have lk : 200 < xs.length := by simp at c1; omega
      refine W_region ?_
      refine L (D_v (R_move rfl) ?_)
      refine L (D_v (R_sliceHi (j := 200) Try.underlying46 Try.sizeOf53 rfl rfl (h.ext hE).1 (by (try simp only [List.length_take, List.length_drop, List.length_append, List.length_cons, List.length_nil, List.length_replicate, List.length_set, Nm.b_len, be2_len]); omega)) ?_)
      refine L (D_v (R_assign rfl) ?_)
      refine S_nil ?_
      exact ⟨rfl, _, rfl, (cut200_p lk), rfl, hE⟩
    ·
      have lk : ¬ 200 < xs.length := by simp at c1; omega
      refine wp_skip ?_
      exact ⟨rfl, _, rfl, (cut200_n lk), rfl, hE⟩
  rintro fk3 w3k ⟨q0, q1, hE⟩
  refine T_tn ?_
  refine wp_seq ?_
  refine W_region ?_
  refine L (D_v (R_move q0) ?_)
  refine L (D_callE (R_callF Try.call57 rfl rfl) (c57 w.heap.size (cut200 v xs.length) (X) _ (Nat.le_trans (Nat.le_refl _) hE.size) (by first | omega | (simp only [List.length_take, List.length_drop, List.length_append, List.length_reverse] at *; omega)) (h2.ext hE) hsx) (fun v5_1 w5_1 e5_1 p5_1 => ?_))
  obtain ⟨y5_1, o5_1, zz5_1, za5_1, zb5_1, zc5_1, zd5_1⟩ := p5_1
  replace o5_1 := o5_1.low hE.size
  replace hE := hE.trans e5_1
  have hc0 := can_of zc5_1 zb5_1 zd5_1
  have hyl0 : y5_1.length ≤ 1000 := by have h9 := ddn_len zz5_1 zz5_1.length; rw [← zd5_1] at h9; refine Nat.le_trans h9 (Nat.le_trans (Nat.le_of_eq za5_1) ?_); first | omega | (simp only [List.length_append, List.length_take, List.length_drop]; omega)
  refine L (D_v (R_assign rfl) ?_)
  refine S_nil ?_
  refine T_tn ?_
  refine wp_seq ?_
  refine W_region ?_
  refine L (D_v (R_assign rfl) ?_)
  refine S_nil ?_
  refine T_tn ?_
  refine wp_seq ?_
  refine wp_seq ?_
  refine W_region ?_
  refine L (D_v (R_move q0) ?_)
  refine L (D_v (R_len Try.underlying46 rfl (h2.ext hE).1) ?_)
  refine L (D_v (R_cast (v' := i64 ((((X).length : Nat) : Int) - 1)) (R_subI rfl rfl) (congrArg (Value.int .i64) (by rw [IntKind.wrap_i64]; omega))) ?_)
  refine L (D_v (R_assign rfl) ?_)
  refine S_nil ?_
  refine T_tn ?_
  refine wp_block ?_
  refine W_loop (fun mz g W => ∃ (k : Nat) (ts : List Sg) (r6 : Value), mz = k + 0 ∧ g 0 = (cut200 v xs.length) ∧ g 1 = i64 by_ ∧ g 5 = v5_1 ∧ g 6 = r6 ∧ g 7 = i64 (((k : Nat) : Int) - 1) ∧ Ext w W ∧ Ow cS w.heap.size w.heap.size W v5_1 y5_1 ∧ Ow cS w.heap.size w.heap.size W r6 ts ∧ (∀ k, Value.ownBlock v5_1 = some k → Value.ownBlock r6 ≠ some k) ∧ k ≤ X.length ∧ ts = (X.drop k).reverse ∧ ts.length + k = X.length) ⟨_, [], _, rfl, q0, q1, rfl, rfl, rfl, hE, o5_1, (Ow.nil cS w.heap.size _ _), (fun k _ h => nomatch (show (none : Option Nat) = some _ from h)), (Nat.le_refl _), (by simp), (by simp)⟩ ?_
  rintro mz f8 w8l ⟨k, ts, r6, hm, q0, q1, q5, q6, q7, hE, ov5_1, or6, zv5_1_r6, hk, ht, htl⟩
  refine wp_seq ?_
  refine wp_seq ?_
  refine W_region ?_
  refine L (D_v (R_move q7) ?_)
  refine L (D_v (R_geqI rfl rfl) ?_)
  refine S_nil ?_
  refine T_tn ?_
  refine W_if rfl (fun c2 => ?_) (fun c2 => ?_)
  ·
    obtain ⟨j, rfl⟩ : ∃ j, k = j + 1 := ⟨k - 1, by have h9 := of_decide_eq_true c2; omega⟩
    refine wp_skip ?_
    refine T_tn ?_
    refine wp_seq ?_
    refine wp_block ?_
    refine W_region ?_
    refine L (D_v (R_move q6) ?_)
    refine L (D_v (R_move q0) ?_)
    refine L (D_v (R_move (q7.trans (congrArg i64 (show (((j + 1 : Nat) : Int) - 1) = ((j : Nat) : Int) by omega)))) ?_)
    refine L (D_v (R_elAddr (i := j) Try.underlying46 Try.sizeOf53 rfl rfl (h2.ext hE).1 (by (try simp only [List.length_take, List.length_drop, List.length_append, List.length_cons, List.length_nil, List.length_replicate, List.length_set, Nm.b_len, be2_len]); omega)) ?_)
    have k10_4 := ((h2.ext hE)).get (i := j) (getD_some (d := Sg.zero) (by (try simp only [List.length_take, List.length_drop, List.length_append, List.length_cons, List.length_nil, List.length_replicate, List.length_set, Nm.b_len, be2_len]); omega))
    refine L (D_v (R_ldL (C := cS) (i := j) (y := ((X).getD (j) Sg.zero)) Try.isAgg53 Try.sizeOf53 rfl (h2.ext hE) (getD_some (d := Sg.zero) (by (try simp only [List.length_take, List.length_drop, List.length_append, List.length_cons, List.length_nil, List.length_replicate, List.length_set, Nm.b_len, be2_len]); omega))) ?_)
    refine L (D_buildL1 (C := cS) (lo := w.heap.size) (y := ((X).getD (j) Sg.zero)) Try.underlying46 Try.sizeOf53 Try.zeroValue53 (mapp1 rfl) (by decide) k10_4 (fun v10_5 w10_5 o10_5 e10_5 => ?_))
    have zv5_1_v10_5 := own_apart ov5_1.1 o10_5.1
    have zv10_5_v5_1 := fun k hk hk2 => zv5_1_v10_5 k hk2 hk
    have zr6_v10_5 := own_apart or6.1 o10_5.1
    have zv10_5_r6 := fun k hk hk2 => zr6_v10_5 k hk2 hk
    replace o10_5 := o10_5.low hE.size
    replace hE := hE.trans e10_5
    replace ov5_1 := ov5_1.ext e10_5
    replace or6 := or6.ext e10_5
    replace k10_4 := k10_4.fb (Fb.ext e10_5)
    refine L (D_appendL elt53 Try.underlying46 rfl rfl or6 (Nat.le_refl _) o10_5.ls (by (try simp only [List.length_take, List.length_drop, List.length_append, List.length_cons, List.length_nil, List.length_replicate, List.length_set, Nm.b_len, be2_len]); omega) (by (try simp only [List.length_take, List.length_drop, List.length_append, List.length_cons, List.length_nil, List.length_replicate, List.length_set, Nm.b_len, be2_len]); omega) hE.size (fun v10_6 w10_6 o10_6 g10_6 f10_6 sv10_6 => ?_))
    have zv5_1_v10_6 : ∀ k, Value.ownBlock v5_1 = some k → Value.ownBlock v10_6 ≠ some k := fun k hk2 hk => (sv10_6 _ hk).elim (fun h => zv5_1_r6 k hk2 h) (fun h => absurd h (Nat.not_le.2 (own_lt ov5_1.1 hk2)))
    have zv10_6_v5_1 := fun k hk hk2 => zv5_1_v10_6 k hk2 hk
    have zv10_5_v10_6 : ∀ k, Value.ownBlock v10_5 = some k → Value.ownBlock v10_6 ≠ some k := fun k hk2 hk => (sv10_6 _ hk).elim (fun h => zv10_5_r6 k hk2 h) (fun h => absurd h (Nat.not_le.2 (own_lt o10_5.1 hk2)))
    have zv10_6_v10_5 := fun k hk hk2 => zv10_5_v10_6 k hk2 hk
    replace hE := hE.grown g10_6 (fun k hk => own_ge or6.1 hk)
    replace ov5_1 := ov5_1.grown g10_6 (zv5_1_r6) f10_6
    replace o10_5 := o10_5.grown g10_6 (zv10_5_r6) f10_6
    replace k10_4 := k10_4.fb f10_6
    refine L (D_v (R_assign rfl) ?_)
    refine S_nil ?_
    refine T_bn ?_
    refine T_tn ?_
    refine W_region ?_
    refine L (D_v (R_move (q7.trans (congrArg i64 (show (((j + 1 : Nat) : Int) - 1) = ((j : Nat) : Int) by omega)))) ?_)
    refine L (D_v (R_cast (v' := i64 (((j : Nat) : Int) - 1)) (R_subI rfl rfl) (congrArg (Value.int .i64) (by rw [IntKind.wrap_i64]; omega))) ?_)
    refine L (D_v (R_assign rfl) ?_)
    refine S_nil ?_
    refine T_tn ?_
    refine ⟨_, _, ?_, rfl, j, _, _, rfl, q0, q1, q5, rfl, rfl, hE, ov5_1, o10_6, zv5_1_v10_6, ?_, ?_, ?_⟩
    all_goals first | omega | exact turn_next ht (by omega) | (simp only [List.length_append, List.length_cons, List.length_nil]; omega)
  ·
    obtain rfl : k = 0 := by have h9 := of_decide_eq_false c2; omega
    refine wp_exit ?_
    refine T_te ?_
    refine T_te ?_
    refine T_be ?_
    refine T_tn ?_
    refine wp_seq ?_
    refine wp_seq ?_
    refine W_region ?_
    refine L (D_v (R_move q0) ?_)
    refine L (D_v (R_len Try.underlying46 rfl (h2.ext hE).1) ?_)
    refine L (D_v (R_gtrI rfl rfl) ?_)
    refine S_nil ?_
    refine T_tn ?_
    refine W_if rfl (fun c3 => ?_) (fun c3 => ?_)
    ·
      have hx0 : 0 < X.length := by have h9 := of_decide_eq_true c3; omega
      refine wp_seq ?_
      refine W_region ?_
      refine L (D_v (R_move q1) ?_)
      refine L (D_v (R_conv Try.runUnderlying3 Try.runUnderlying36 rfl) ?_)
      refine L (D_v (R_move q0) ?_)
      refine L (D_v (R_len Try.underlying46 rfl (h2.ext hE).1) ?_)
      refine L (D_v (R_conv Try.runUnderlying3 Try.runUnderlying36 rfl) ?_)
      have hix : (IntKind.wrap .u64 (by_)).toNat % (X).length < (X).length := Nat.mod_lt _ (by (try simp only [List.length_take, List.length_drop, List.length_append, List.length_cons, List.length_nil, List.length_replicate, List.length_set, Nm.b_len, be2_len]); omega)
      refine L (D_v (R_remW (M := by_) (L := (X).length) rfl rfl (by (try simp only [List.length_take, List.length_drop, List.length_append, List.length_cons, List.length_nil, List.length_replicate, List.length_set, Nm.b_len, be2_len]); omega) (by (try simp only [List.length_take, List.length_drop, List.length_append, List.length_cons, List.length_nil, List.length_replicate, List.length_set, Nm.b_len, be2_len]); omega)) ?_)
      refine L (D_v (R_convN (e := ((IntKind.wrap .u64 (by_)).toNat % (X).length)) Try.runUnderlying36 Try.runUnderlying3 rfl (Nat.le_trans (Nat.le_of_lt hix) (by (try simp only [List.length_take, List.length_drop, List.length_append, List.length_cons, List.length_nil, List.length_replicate, List.length_set, Nm.b_len, be2_len]); omega))) ?_)
      refine L (D_v (R_assign rfl) ?_)
      refine S_nil ?_
      refine T_tn ?_
      refine W_held (fun W => Ext w W ∧ Ow cS w.heap.size w.heap.size W v5_1 y5_1 ∧ True) mixed (fun w12_99 e12_99 => ?_)
      replace hE := hE.trans e12_99
      replace ov5_1 := ov5_1.ext e12_99
      replace or6 := or6.ext e12_99
      refine H_take (i := 0) rfl (by kernel_rfl) (by kernel_rfl) (by kernel_rfl) rfl (pq_then pq_body) ⟨hE, ov5_1, trivial⟩ rfl (fun w hw => R_move q6) ?_
      refine H_take (i := 1) rfl (by kernel_rfl) (by kernel_rfl) (by kernel_rfl) rfl (pq_then pq_body) ⟨hE, ov5_1, trivial⟩ rfl (fun w hw => R_move q0) ?_
      refine H_take (i := 2) rfl (by kernel_rfl) (by kernel_rfl) (by kernel_rfl) rfl (pq_then pq_body) ⟨hE, ov5_1, trivial⟩ rfl (fun w hw => R_move rfl) ?_
      refine H_take (i := 3) rfl (by kernel_rfl) (by kernel_rfl) (by kernel_rfl) rfl (pq_then pq_body) ⟨hE, ov5_1, trivial⟩ rfl (fun w hw => R_sliceLo (i := ((IntKind.wrap .u64 (by_)).toNat % (X).length)) Try.underlying46 Try.sizeOf53 rfl rfl (h2.ext hw.1).1 (by (try simp only [List.length_take, List.length_drop, List.length_append, List.length_cons, List.length_nil, List.length_replicate, List.length_set, Nm.b_len, be2_len]); omega)) ?_
      refine H_take (i := 5) rfl (by kernel_rfl) (by kernel_rfl) (by kernel_rfl) rfl (pq_then pq_body) ⟨hE, ov5_1, trivial⟩ rfl (fun w hw => R_move q0) ?_
      refine H_take (i := 6) rfl (by kernel_rfl) (by kernel_rfl) (by kernel_rfl) rfl (pq_then pq_body) ⟨hE, ov5_1, trivial⟩ rfl (fun w hw => R_move rfl) ?_
      refine H_take (i := 7) rfl (by kernel_rfl) (by kernel_rfl) (by kernel_rfl) rfl (pq_then pq_body) ⟨hE, ov5_1, trivial⟩ rfl (fun w hw => R_sliceHi (j := ((IntKind.wrap .u64 (by_)).toNat % (X).length)) Try.underlying46 Try.sizeOf53 rfl rfl (h2.ext hw.1).1 (by (try simp only [List.length_take, List.length_drop, List.length_append, List.length_cons, List.length_nil, List.length_replicate, List.length_set, Nm.b_len, be2_len]); omega)) ?_
      refine H_op (i := 4) (by kernel_rfl) rfl rfl (D_appendL elt53 Try.underlying46 rfl rfl or6 (Nat.le_refl _) ((h2.ext hE).cut (by (try simp only [List.length_take, List.length_drop, List.length_append, List.length_cons, List.length_nil, List.length_replicate, List.length_set, Nm.b_len, be2_len]); omega) (by (try simp only [List.length_take, List.length_drop, List.length_append, List.length_cons, List.length_nil, List.length_replicate, List.length_set, Nm.b_len, be2_len]); omega)) (by (try simp only [List.length_take, List.length_drop, List.length_append, List.length_cons, List.length_nil, List.length_replicate, List.length_set, Nm.b_len, be2_len]); omega) (by (try simp only [List.length_take, List.length_drop, List.length_append, List.length_cons, List.length_nil, List.length_replicate, List.length_set, Nm.b_len, be2_len]); omega) hE.size (fun v12_4 w12_4 o12_4 g12_4 f12_4 sv12_4 => ?_))
      have zv5_1_v12_4 : ∀ k, Value.ownBlock v5_1 = some k → Value.ownBlock v12_4 ≠ some k := fun k hk2 hk => (sv12_4 _ hk).elim (fun h => zv5_1_r6 k hk2 h) (fun h => absurd h (Nat.not_le.2 (own_lt ov5_1.1 hk2)))
      have zv12_4_v5_1 := fun k hk hk2 => zv5_1_v12_4 k hk2 hk
      replace hE := hE.grown g12_4 (fun k hk => own_ge or6.1 hk)
      replace ov5_1 := ov5_1.grown g12_4 (zv5_1_r6) f12_4
      refine ⟨⟨hE, ov5_1, trivial⟩, ?_⟩
      refine H_op (i := 8) (by kernel_rfl) rfl rfl (D_appendL elt53 Try.underlying46 rfl rfl o12_4 (Nat.le_refl _) ((h2.ext hE).cut (by (try simp only [List.length_take, List.length_drop, List.length_append, List.length_cons, List.length_nil, List.length_replicate, List.length_set, Nm.b_len, be2_len]); omega) (by (try simp only [List.length_take, List.length_drop, List.length_append, List.length_cons, List.length_nil, List.length_replicate, List.length_set, Nm.b_len, be2_len]); omega)) (by (try simp only [List.length_take, List.length_drop, List.length_append, List.length_cons, List.length_nil, List.length_replicate, List.length_set, Nm.b_len, be2_len]); omega) (by (try simp only [List.length_take, List.length_drop, List.length_append, List.length_cons, List.length_nil, List.length_replicate, List.length_set, Nm.b_len, be2_len]); omega) hE.size (fun v12_8 w12_8 o12_8 g12_8 f12_8 sv12_8 => ?_))
      have zv5_1_v12_8 : ∀ k, Value.ownBlock v5_1 = some k → Value.ownBlock v12_8 ≠ some k := fun k hk2 hk => (sv12_8 _ hk).elim (fun h => zv5_1_v12_4 k hk2 h) (fun h => absurd h (Nat.not_le.2 (own_lt ov5_1.1 hk2)))
      have zv12_8_v5_1 := fun k hk hk2 => zv5_1_v12_8 k hk2 hk
      replace hE := hE.grown g12_8 (fun k hk => own_ge o12_4.1 hk)
      replace ov5_1 := ov5_1.grown g12_8 (zv5_1_v12_4) f12_8
      refine ⟨⟨hE, ov5_1, trivial⟩, ?_⟩
      refine H_take (i := 9) rfl (by kernel_rfl) (by kernel_rfl) (by kernel_rfl) rfl (pq_then pq_body) ⟨hE, ov5_1, trivial⟩ rfl (fun w hw => R_assign rfl) ?_
      refine H_done (by kernel_rfl) ?_
      refine T_tn ?_
      refine wp_seq ?_
      refine wp_seq ?_
      refine W_region ?_
      refine L (D_v (R_move rfl) ?_)
      refine L (D_callE (R_callF Try.call57 rfl rfl) (c57 w.heap.size v12_8 (((ts ++ (((X).drop (((IntKind.wrap .u64 (by_)).toNat % (X).length))).take ((X).length - ((IntKind.wrap .u64 (by_)).toNat % (X).length)))) ++ (((X).drop (0)).take (((IntKind.wrap .u64 (by_)).toNat % (X).length) - 0)))) _ (Nat.le_trans (Nat.le_refl _) hE.size) (by first | omega | (simp only [List.length_take, List.length_drop, List.length_append, List.length_reverse] at *; omega)) o12_8.ls (sig_mem hsx (fun y hy => (turn_mem2 ht).1 hy))) (fun v13_1 w13_1 e13_1 p13_1 => ?_))
      obtain ⟨y13_1, o13_1, zz13_1, za13_1, zb13_1, zc13_1, zd13_1⟩ := p13_1
      have zv5_1_v13_1 := own_apart ov5_1.1 o13_1.1
      have zv13_1_v5_1 := fun k hk hk2 => zv5_1_v13_1 k hk2 hk
      have zv12_8_v13_1 := own_apart o12_8.1 o13_1.1
      have zv13_1_v12_8 := fun k hk hk2 => zv12_8_v13_1 k hk2 hk
      replace o13_1 := o13_1.low hE.size
      replace hE := hE.trans e13_1
      replace ov5_1 := ov5_1.ext e13_1
      replace o12_8 := o12_8.ext e13_1
      have hc1 := can_of zc13_1 zb13_1 zd13_1
      have hyl1 : y13_1.length ≤ 1000 := by have h9 := ddn_len zz13_1 zz13_1.length; rw [← zd13_1] at h9; refine Nat.le_trans h9 (Nat.le_trans (Nat.le_of_eq za13_1) ?_); first | omega | (simp only [List.length_append, List.length_take, List.length_drop]; omega)
      refine L (D_v (R_move q5) ?_)
      refine L (D_call (R_callF Try.call58 rfl rfl) (ret_b (c58 v13_1 v5_1 (y13_1) (y5_1) _ (by omega) (o13_1.ls.up2 (Nat.le_trans (Nat.le_refl _) hE.size)) (ov5_1.ls.up2 (Nat.le_trans (Nat.le_refl _) hE.size))) (can_same2 (fun y => turn_mem2 ht) hc0 hc1)) (fun w13_3 e13_3 => ?_))
      replace hE := hE.trans e13_3
      replace ov5_1 := ov5_1.ext e13_3
      replace o12_8 := o12_8.ext e13_3
      replace o13_1 := o13_1.ext e13_3
      refine L (D_v (R_not rfl) ?_)
      refine L (D_v (R_move rfl) ?_)
      refine L (D_on rfl rfl (D_v (R_move q5) ?_))
      refine L (D_on rfl rfl (D_callE (R_callF Try.call57 rfl rfl) (c57 w.heap.size v5_1 (y5_1) _ (Nat.le_trans (Nat.le_refl _) hE.size) (by first | omega | (simp only [List.length_take, List.length_drop, List.length_append, List.length_reverse] at *; omega)) ov5_1.ls (sig_sub hsx hc0.sub)) (fun v13_7 w13_7 e13_7 p13_7 => ?_)))
      obtain ⟨y13_7, o13_7, zz13_7, za13_7, zb13_7, zc13_7, zd13_7⟩ := p13_7
      have zv5_1_v13_7 := own_apart ov5_1.1 o13_7.1
      have zv13_7_v5_1 := fun k hk hk2 => zv5_1_v13_7 k hk2 hk
      have zv12_8_v13_7 := own_apart o12_8.1 o13_7.1
      have zv13_7_v12_8 := fun k hk hk2 => zv12_8_v13_7 k hk2 hk
      have zv13_1_v13_7 := own_apart o13_1.1 o13_7.1
      have zv13_7_v13_1 := fun k hk hk2 => zv13_1_v13_7 k hk2 hk
      replace o13_7 := o13_7.low hE.size
      replace hE := hE.trans e13_7
      replace ov5_1 := ov5_1.ext e13_7
      replace o12_8 := o12_8.ext e13_7
      replace o13_1 := o13_1.ext e13_7
      have hc2 := can_of zc13_7 zb13_7 zd13_7
      have hyl2 : y13_7.length ≤ 1000 := by have h9 := ddn_len zz13_7 zz13_7.length; rw [← zd13_7] at h9; refine Nat.le_trans h9 (Nat.le_trans (Nat.le_of_eq za13_7) ?_); first | omega | (simp only [List.length_append, List.length_take, List.length_drop]; omega)
      refine L (D_on rfl rfl (D_v (R_move q5) ?_))
      refine L (D_on rfl rfl (D_call (R_callF Try.call58 rfl rfl) (ret_b (c58 v13_7 v5_1 (y13_7) (y5_1) _ (by omega) (o13_7.ls.up2 (Nat.le_trans (Nat.le_refl _) hE.size)) (ov5_1.ls.up2 (Nat.le_trans (Nat.le_refl _) hE.size))) (can_again hc0 hc2)) (fun w13_9 e13_9 => ?_)))
      replace hE := hE.trans e13_9
      replace ov5_1 := ov5_1.ext e13_9
      replace o12_8 := o12_8.ext e13_9
      replace o13_1 := o13_1.ext e13_9
      replace o13_7 := o13_7.ext e13_9
      refine L (D_on rfl rfl (D_v (R_not rfl) ?_))
      refine L (D_v (R_cast (v' := .bool false) (R_pick rfl rfl rfl) rfl) ?_)
      refine S_nil ?_
      refine T_tn ?_
      refine W_iff rfl ?_
      refine wp_skip ?_
      refine T_tn ?_
      refine wp_seq ?_
      refine wp_seq ?_
      refine W_region ?_
      refine L (D_v (R_assign rfl) ?_)
      refine S_nil ?_
      refine T_tn ?_
      refine wp_block ?_
      refine W_loop (fun mz g W => ∃ (i : Nat), mz = y5_1.length - i ∧ g 0 = (cut200 v xs.length) ∧ g 5 = v5_1 ∧ g 9 = i64 ((i : Nat) : Int) ∧ Ext w W ∧ Ow cS w.heap.size w.heap.size W v5_1 y5_1) ⟨0, rfl, q0, q5, rfl, hE, ov5_1⟩ ?_
      rintro mz f15 w15l ⟨i, hm, q0, q5, q9, hE, ov5_1⟩
      refine wp_seq ?_
      refine wp_seq ?_
      refine W_region ?_
      refine L (D_v (R_move q9) ?_)
      refine L (D_v (R_move q5) ?_)
      refine L (D_v (R_len Try.underlying46 rfl ov5_1.ls.1) ?_)
      refine L (D_v (R_lssI rfl rfl) ?_)
      refine S_nil ?_
      refine T_tn ?_
      refine W_if rfl (fun c4 => ?_) (fun c4 => ?_)
      ·
        have li : i < y5_1.length := by have h9 := of_decide_eq_true c4; omega
        refine wp_skip ?_
        refine T_tn ?_
        refine wp_seq ?_
        refine wp_block ?_
        refine wp_seq ?_
        refine W_draw mixed (by kernel_rfl) ?_
        refine Q_v (fun w hw => R_move q9) ?_
        refine Q_v (fun w hw => R_gtrI rfl rfl) ?_
        refine Q_v (fun w hw => R_move rfl) ?_
        refine Q_g1 rfl rfl (fun hb w hw => R_move q5) ?_
        refine Q_g1 rfl rfl (fun hb w hw => R_move q9) ?_
        refine Q_g1 rfl rfl (fun hb w hw => R_subN (m := i) (j := 1) (cgE hb) rfl (by first | ((try simp only [List.length_take, List.length_drop, List.length_append, List.length_cons, List.length_nil]); omega) | (simp at hb; omega)) (by first | ((try simp only [List.length_take, List.length_drop, List.length_append, List.length_cons, List.length_nil]); omega) | (simp at hb; omega))) ?_
        refine Q_g1 rfl rfl (fun hb w hw => R_elAddr (i := (i - 1)) Try.underlying46 Try.sizeOf53 (cgE hb) (cgE hb) (ov5_1.ls.ext hw).1 (by first | ((try simp only [List.length_take, List.length_drop, List.length_append, List.length_cons, List.length_nil]); omega) | (simp at hb; omega))) ?_
        refine Q_g1 rfl rfl (fun hb w hw => R_fieldEl (k := (i - 1) * 23) Try.runUnderlying53 rfl Try.sizeOf26 (ov5_1.ls.ext hw).1 (lel_ltz (C := cS) (s := 23) rfl (by decide) (getD_some (d := Sg.zero) (by first | ((try simp only [List.length_take, List.length_drop, List.length_append, List.length_cons, List.length_nil]); omega) | (simp at hb; omega)))) (cgE hb)) ?_
        refine Q_g1 rfl rfl (fun hb w hw => R_ldP (C := cS) (i := (i - 1)) (k := 0) (y := ((y5_1).getD ((i - 1)) Sg.zero)) (c := ((((y5_1).getD ((i - 1)) Sg.zero)).vote).l) Try.isAgg26 Try.sizeOf26 (cgE hb) (ov5_1.ls.ext hw) (getD_some (d := Sg.zero) (by first | ((try simp only [List.length_take, List.length_drop, List.length_append, List.length_cons, List.length_nil]); omega) | (simp at hb; omega))) (by decide) (by decide) rfl) ?_
        refine Q_g1 rfl rfl (fun hb w hw => R_move q5) ?_
        refine Q_g1 rfl rfl (fun hb w hw => R_move q9) ?_
        refine Q_g1 rfl rfl (fun hb w hw => R_elAddr (i := i) Try.underlying46 Try.sizeOf53 (cgE hb) (cgE hb) (ov5_1.ls.ext hw).1 (by first | ((try simp only [List.length_take, List.length_drop, List.length_append, List.length_cons, List.length_nil]); omega) | (simp at hb; omega))) ?_
        refine Q_g1 rfl rfl (fun hb w hw => R_fieldEl (k := i * 23) Try.runUnderlying53 rfl Try.sizeOf26 (ov5_1.ls.ext hw).1 (lel_ltz (C := cS) (s := 23) rfl (by decide) (getD_some (d := Sg.zero) (by first | ((try simp only [List.length_take, List.length_drop, List.length_append, List.length_cons, List.length_nil]); omega) | (simp at hb; omega)))) (cgE hb)) ?_
        refine Q_g1 rfl rfl (fun hb w hw => R_ldP (C := cS) (i := i) (k := 0) (y := ((y5_1).getD (i) Sg.zero)) (c := ((((y5_1).getD (i) Sg.zero)).vote).l) Try.isAgg26 Try.sizeOf26 (cgE hb) (ov5_1.ls.ext hw) (getD_some (d := Sg.zero) (by first | ((try simp only [List.length_take, List.length_drop, List.length_append, List.length_cons, List.length_nil]); omega) | (simp at hb; omega))) (by decide) (by decide) rfl) ?_
        refine Q_gc1 rfl rfl (fun hb w hw => R_callF Try.call33 (mapv2 (cgE hb) (cgE hb)) rfl) (fun hb w hw => c33 ((((y5_1).getD ((i - 1)) Sg.zero)).vote) ((((y5_1).getD (i) Sg.zero)).vote) _ ) ?_
        refine Q_g1 rfl rfl (fun hb w hw => R_not (cgE hb)) ?_
        refine Q_v (fun w hw => R_pickA rfl rfl rfl) ?_
        refine Q_nil (fun w17_99 e17_99 => ?_)
        replace hE := hE.trans e17_99
        replace ov5_1 := ov5_1.ext e17_99
        refine T_tn ?_
        refine W_if rfl (fun c5 => ?_) (fun c5 => ?_)
        ·
          exfalso; revert c5; by_cases h0 : 0 < i
          · rw [can_up hc0 h0 li]; simp
          · have e0 : decide (((i : Nat) : Int) > 0) = false := decide_eq_false (by omega)
            rw [e0]; simp
        ·
          refine wp_skip ?_
          refine T_bn ?_
          refine T_tn ?_
          refine W_region ?_
          refine L (D_v (R_move q9) ?_)
          refine L (D_v (R_addN (m := i) (j := 1) rfl rfl (by (try simp only [List.length_take, List.length_drop, List.length_append, List.length_cons, List.length_nil, List.length_replicate, List.length_set, Nm.b_len, be2_len]); omega)) ?_)
          refine L (D_v (R_assign rfl) ?_)
          refine S_nil ?_
          refine T_tn ?_
          refine ⟨_, _, ?_, rfl, i + 1, rfl, q0, q5, rfl, hE, ov5_1⟩
          all_goals first | omega
      ·
        refine wp_exit ?_
        refine T_te ?_
        refine T_te ?_
        refine T_be ?_
        refine T_tn ?_
        refine wp_seq ?_
        refine wp_seq ?_
        refine W_region ?_
        refine L (D_v (R_assign rfl) ?_)
        refine S_nil ?_
        refine T_tn ?_
        refine wp_block ?_
        refine W_loop (fun mz g W => ∃ (i : Nat), mz = X.length - i ∧ g 0 = (cut200 v xs.length) ∧ g 5 = v5_1 ∧ g 10 = i64 ((i : Nat) : Int) ∧ Ext w W ∧ Ow cS w.heap.size w.heap.size W v5_1 y5_1) ⟨0, rfl, q0, q5, rfl, hE, ov5_1⟩ ?_
        rintro mz f18 w18l ⟨i, hm, q0, q5, q10, hE, ov5_1⟩
        refine wp_seq ?_
        refine wp_seq ?_
        refine W_region ?_
        refine L (D_v (R_move q10) ?_)
        refine L (D_v (R_move q0) ?_)
        refine L (D_v (R_len Try.underlying46 rfl (h2.ext hE).1) ?_)
        refine L (D_v (R_lssI rfl rfl) ?_)
        refine S_nil ?_
        refine T_tn ?_
        refine W_if rfl (fun c5 => ?_) (fun c5 => ?_)
        ·
          have lx : i < X.length := by have h9 := of_decide_eq_true c5; omega
          refine wp_skip ?_
          refine T_tn ?_
          refine wp_seq ?_
          refine wp_block ?_
          refine wp_seq ?_
          refine W_region ?_
          refine L (D_v (R_assign rfl) ?_)
          refine S_nil ?_
          refine T_tn ?_
          refine wp_seq ?_
          refine wp_seq ?_
          refine W_region ?_
          refine L (D_v (R_assign rfl) ?_)
          refine S_nil ?_
          refine T_tn ?_
          refine wp_block ?_
          refine W_loop (fun mz g W => ∃ (k : Nat) (B : Bool), mz = y5_1.length - k ∧ g 0 = (cut200 v xs.length) ∧ g 5 = v5_1 ∧ g 10 = i64 ((i : Nat) : Int) ∧ g 11 = .bool B ∧ g 12 = i64 ((k : Nat) : Int) ∧ Ext w W ∧ Ow cS w.heap.size w.heap.size W v5_1 y5_1 ∧ (∀ q : Nat, q < k → (y5_1.getD q Sg.zero).vote = (X.getD i Sg.zero).vote → sLe (y5_1.getD q Sg.zero).sig (X.getD i Sg.zero).sig = true → B = true)) ⟨0, false, rfl, q0, q5, q10, rfl, rfl, hE, ov5_1, (fun q hq => absurd hq (by omega))⟩ ?_
          rintro mz f22 w22l ⟨k, B, hm, q0, q5, q10, q11, q12, hE, ov5_1, hB⟩
          refine wp_seq ?_
          refine wp_seq ?_
          refine W_region ?_
          refine L (D_v (R_move q12) ?_)
          refine L (D_v (R_move q5) ?_)
          refine L (D_v (R_len Try.underlying46 rfl ov5_1.ls.1) ?_)
          refine L (D_v (R_lssI rfl rfl) ?_)
          refine S_nil ?_
          refine T_tn ?_
          refine W_if rfl (fun c6 => ?_) (fun c6 => ?_)
          ·
            have lk : k < y5_1.length := by have h9 := of_decide_eq_true c6; omega
            have ka := (ov5_1.ls).get (getD_some (d := Sg.zero) lk)
            have kb := ((h2.ext hE)).get (getD_some (d := Sg.zero) lx)
            refine wp_skip ?_
            refine T_tn ?_
            refine wp_seq ?_
            refine wp_block ?_
            refine W_draw mixed (by kernel_rfl) ?_
            refine Q_v (fun w hw => R_move q11) ?_
            refine Q_v (fun w hw => R_move rfl) ?_
            refine Q_g1 rfl rfl (fun hb w hw => R_move q5) ?_
            refine Q_g1 rfl rfl (fun hb w hw => R_move q12) ?_
            refine Q_g1 rfl rfl (fun hb w hw => R_elAddr (i := k) Try.underlying46 Try.sizeOf53 (cgE hb) (cgE hb) (ov5_1.ls.ext hw).1 (by first | ((try simp only [List.length_take, List.length_drop, List.length_append, List.length_cons, List.length_nil]); omega) | (simp at hb; omega))) ?_
            refine Q_g1 rfl rfl (fun hb w hw => R_fieldEl (k := k * 23) Try.runUnderlying53 rfl Try.sizeOf26 (ov5_1.ls.ext hw).1 (lel_ltz (C := cS) (s := 23) rfl (by decide) (getD_some (d := Sg.zero) (by first | ((try simp only [List.length_take, List.length_drop, List.length_append, List.length_cons, List.length_nil]); omega) | (simp at hb; omega)))) (cgE hb)) ?_
            refine Q_g1 rfl rfl (fun hb w hw => R_ldP (C := cS) (i := k) (k := 0) (y := ((y5_1).getD (k) Sg.zero)) (c := ((((y5_1).getD (k) Sg.zero)).vote).l) Try.isAgg26 Try.sizeOf26 (cgE hb) (ov5_1.ls.ext hw) (getD_some (d := Sg.zero) (by first | ((try simp only [List.length_take, List.length_drop, List.length_append, List.length_cons, List.length_nil]); omega) | (simp at hb; omega))) (by decide) (by decide) rfl) ?_
            refine Q_g1 rfl rfl (fun hb w hw => R_move q0) ?_
            refine Q_g1 rfl rfl (fun hb w hw => R_move q10) ?_
            refine Q_g1 rfl rfl (fun hb w hw => R_elAddr (i := i) Try.underlying46 Try.sizeOf53 (cgE hb) (cgE hb) (h2.ext (hE.trans hw)).1 (by first | ((try simp only [List.length_take, List.length_drop, List.length_append, List.length_cons, List.length_nil]); omega) | (simp at hb; omega))) ?_
            refine Q_g1 rfl rfl (fun hb w hw => R_fieldEl (k := i * 23) Try.runUnderlying53 rfl Try.sizeOf26 (h2.ext (hE.trans hw)).1 (lel_ltz (C := cS) (s := 23) rfl (by decide) (getD_some (d := Sg.zero) (by first | ((try simp only [List.length_take, List.length_drop, List.length_append, List.length_cons, List.length_nil]); omega) | (simp at hb; omega)))) (cgE hb)) ?_
            refine Q_g1 rfl rfl (fun hb w hw => R_ldP (C := cS) (i := i) (k := 0) (y := ((X).getD (i) Sg.zero)) (c := ((((X).getD (i) Sg.zero)).vote).l) Try.isAgg26 Try.sizeOf26 (cgE hb) (h2.ext (hE.trans hw)) (getD_some (d := Sg.zero) (by first | ((try simp only [List.length_take, List.length_drop, List.length_append, List.length_cons, List.length_nil]); omega) | (simp at hb; omega))) (by decide) (by decide) rfl) ?_
            refine Q_g1 rfl rfl (fun hb w hw => R_eqlA Try.eqGuardType26 (eq26 ((((y5_1).getD (k) Sg.zero)).vote) ((((X).getD (i) Sg.zero)).vote) _) (cgE hb) (cgE hb)) ?_
            refine Q_g1 rfl rfl (fun hb w hw => R_move (cgE hb)) ?_
            refine Q_g2 rfl rfl (fun hg hb w hw => R_move q5) ?_
            refine Q_g2 rfl rfl (fun hg hb w hw => R_move q12) ?_
            refine Q_g2 rfl rfl (fun hg hb w hw => R_elAddr (i := k) Try.underlying46 Try.sizeOf53 (cgA hg hb) (cgA hg hb) (ov5_1.ls.ext hw).1 (by first | ((try simp only [List.length_take, List.length_drop, List.length_append, List.length_cons, List.length_nil]); omega) | (simp at hb; omega))) ?_
            refine Q_g2 rfl rfl (fun hg hb w hw => R_fieldEl (k := k * 23) Try.runUnderlying53 rfl Try.sizeOf31 (ov5_1.ls.ext hw).1 (lel_ltz (C := cS) (s := 23) rfl (by decide) (getD_some (d := Sg.zero) (by first | ((try simp only [List.length_take, List.length_drop, List.length_append, List.length_cons, List.length_nil]); omega) | (simp at hb; omega)))) (cgA hg hb)) ?_
            refine Q_g2 rfl rfl (fun hg hb w hw => R_ldC (C := cS) (i := k) (k := 22) (y := ((y5_1).getD (k) Sg.zero)) (u := (.slice (((y5_1).getD (k) Sg.zero)).A (((y5_1).getD (k) Sg.zero)).n (((y5_1).getD (k) Sg.zero)).c)) Try.isAgg31 (cgA hg hb) (ov5_1.ls.ext hw) (getD_some (d := Sg.zero) (by first | ((try simp only [List.length_take, List.length_drop, List.length_append, List.length_cons, List.length_nil]); omega) | (simp at hb; omega))) (by decide) rfl) ?_
            refine Q_g2 rfl rfl (fun hg hb w hw => R_str (b := (((y5_1).getD (k) Sg.zero)).sig) (cgA hg hb) (ka.fb (Fb.ext hw)).bs) ?_
            refine Q_g2 rfl rfl (fun hg hb w hw => R_move q0) ?_
            refine Q_g2 rfl rfl (fun hg hb w hw => R_move q10) ?_
            refine Q_g2 rfl rfl (fun hg hb w hw => R_elAddr (i := i) Try.underlying46 Try.sizeOf53 (cgA hg hb) (cgA hg hb) (h2.ext (hE.trans hw)).1 (by first | ((try simp only [List.length_take, List.length_drop, List.length_append, List.length_cons, List.length_nil]); omega) | (simp at hb; omega))) ?_
            refine Q_g2 rfl rfl (fun hg hb w hw => R_fieldEl (k := i * 23) Try.runUnderlying53 rfl Try.sizeOf31 (h2.ext (hE.trans hw)).1 (lel_ltz (C := cS) (s := 23) rfl (by decide) (getD_some (d := Sg.zero) (by first | ((try simp only [List.length_take, List.length_drop, List.length_append, List.length_cons, List.length_nil]); omega) | (simp at hb; omega)))) (cgA hg hb)) ?_
            refine Q_g2 rfl rfl (fun hg hb w hw => R_ldC (C := cS) (i := i) (k := 22) (y := ((X).getD (i) Sg.zero)) (u := (.slice (((X).getD (i) Sg.zero)).A (((X).getD (i) Sg.zero)).n (((X).getD (i) Sg.zero)).c)) Try.isAgg31 (cgA hg hb) (h2.ext (hE.trans hw)) (getD_some (d := Sg.zero) (by first | ((try simp only [List.length_take, List.length_drop, List.length_append, List.length_cons, List.length_nil]); omega) | (simp at hb; omega))) (by decide) rfl) ?_
            refine Q_g2 rfl rfl (fun hg hb w hw => R_str (b := (((X).getD (i) Sg.zero)).sig) (cgA hg hb) (kb.fb (Fb.ext hw)).bs) ?_
            refine Q_g2 rfl rfl (fun hg hb w hw => R_leqStr (a := (((y5_1).getD (k) Sg.zero)).sig) (b := (((X).getD (i) Sg.zero)).sig) (cgA hg hb) (cgA hg hb)) ?_
            refine Q_g1 rfl rfl (fun hb w hw => R_pickA (cgE hb) (cgD hb) rfl) ?_
            refine Q_v (fun w hw => R_pickO rfl rfl rfl) ?_
            refine Q_v (fun w hw => R_assign rfl) ?_
            refine Q_nil (fun w24_99 e24_99 => ?_)
            replace hE := hE.trans e24_99
            replace ov5_1 := ov5_1.ext e24_99
            replace ka := ka.fb (Fb.ext e24_99)
            replace kb := kb.fb (Fb.ext e24_99)
            refine T_bn ?_
            refine T_tn ?_
            refine W_region ?_
            refine L (D_v (R_move q12) ?_)
            refine L (D_v (R_addN (m := k) (j := 1) rfl rfl (by (try simp only [List.length_take, List.length_drop, List.length_append, List.length_cons, List.length_nil, List.length_replicate, List.length_set, Nm.b_len, be2_len]); omega)) ?_)
            refine L (D_v (R_assign rfl) ?_)
            refine S_nil ?_
            refine T_tn ?_
            refine ⟨_, _, ?_, rfl, k + 1, _, rfl, q0, q5, q10, rfl, rfl, hE, ov5_1, ?_⟩
            all_goals first | omega | (intro q hq h1 h2; exact (Nat.lt_succ_iff_lt_or_eq.1 hq).elim (fun h3 => by rw [hB q h3 h1 h2]; rfl) (fun h3 => by subst h3; rw [h1, h2]; simp))
          ·
            obtain ⟨q, hq, hqe⟩ := can_has hc0 lx
            have hBt : B = true := hB q (by have h9 := of_decide_eq_false c6; omega) hqe.1 hqe.2
            refine wp_exit ?_
            refine T_te ?_
            refine T_te ?_
            refine T_be ?_
            refine T_tn ?_
            refine wp_seq ?_
            refine W_region ?_
            refine L (D_v (R_move q11) ?_)
            refine L (D_v (R_not rfl) ?_)
            refine S_nil ?_
            refine T_tn ?_
            refine W_if rfl (fun c7 => ?_) (fun c7 => ?_)
            ·
              exfalso; rw [hBt] at c7; simp at c7
            ·
              refine wp_skip ?_
              refine T_bn ?_
              refine T_tn ?_
              refine W_region ?_
              refine L (D_v (R_move q10) ?_)
              refine L (D_v (R_addN (m := i) (j := 1) rfl rfl (by (try simp only [List.length_take, List.length_drop, List.length_append, List.length_cons, List.length_nil, List.length_replicate, List.length_set, Nm.b_len, be2_len]); omega)) ?_)
              refine L (D_v (R_assign rfl) ?_)
              refine S_nil ?_
              refine T_tn ?_
              refine ⟨_, _, ?_, rfl, i + 1, rfl, q0, q5, rfl, hE, ov5_1⟩
              all_goals first | omega
        ·
          refine wp_exit ?_
          refine T_te ?_
          refine T_te ?_
          refine T_be ?_
          refine T_tn ?_
          refine wp_seq ?_
          refine W_region ?_
          refine L (D_call (R_callF Try.call56 rfl rfl) (c56 _) (fun w20_0 e20_0 => ?_))
          replace hE := hE.trans e20_0
          refine L (D_v (R_assign rfl) ?_)
          refine S_nil ?_
          refine T_tn ?_
          refine wp_ret ?_
          refine ret1 (v := .bool _) rfl rfl ⟨congrArg (fun b => Ending.returned (Value.bool b)) ?_, hE⟩
          rfl
    ·
      have hx0 : X.length = 0 := by have h9 := of_decide_eq_false c3; omega
      have hnil : X = [] := List.length_eq_zero_iff.1 hx0
      refine wp_skip ?_
      refine T_tn ?_
      refine wp_seq ?_
      refine wp_seq ?_
      refine W_region ?_
      refine L (D_v (R_move q6) ?_)
      refine L (D_callE (R_callF Try.call57 rfl rfl) (c57 w.heap.size r6 (ts) _ (Nat.le_trans (Nat.le_refl _) hE.size) (by first | omega | (simp only [List.length_take, List.length_drop, List.length_append, List.length_reverse] at *; omega)) or6.ls (sig_mem hsx (fun y hy => (turn_mem1 ht).1 hy))) (fun v11_1 w11_1 e11_1 p11_1 => ?_))
      obtain ⟨y11_1, o11_1, zz11_1, za11_1, zb11_1, zc11_1, zd11_1⟩ := p11_1
      have zv5_1_v11_1 := own_apart ov5_1.1 o11_1.1
      have zv11_1_v5_1 := fun k hk hk2 => zv5_1_v11_1 k hk2 hk
      have zr6_v11_1 := own_apart or6.1 o11_1.1
      have zv11_1_r6 := fun k hk hk2 => zr6_v11_1 k hk2 hk
      replace o11_1 := o11_1.low hE.size
      replace hE := hE.trans e11_1
      replace ov5_1 := ov5_1.ext e11_1
      replace or6 := or6.ext e11_1
      have hc1 := can_of zc11_1 zb11_1 zd11_1
      have hyl1 : y11_1.length ≤ 1000 := by have h9 := ddn_len zz11_1 zz11_1.length; rw [← zd11_1] at h9; refine Nat.le_trans h9 (Nat.le_trans (Nat.le_of_eq za11_1) ?_); first | omega | (simp only [List.length_append, List.length_take, List.length_drop]; omega)
      refine L (D_v (R_move q5) ?_)
      refine L (D_call (R_callF Try.call58 rfl rfl) (ret_b (c58 v11_1 v5_1 (y11_1) (y5_1) _ (by omega) (o11_1.ls.up2 (Nat.le_trans (Nat.le_refl _) hE.size)) (ov5_1.ls.up2 (Nat.le_trans (Nat.le_refl _) hE.size))) (can_same2 (fun y => turn_mem1 ht) hc0 hc1)) (fun w11_3 e11_3 => ?_))
      replace hE := hE.trans e11_3
      replace ov5_1 := ov5_1.ext e11_3
      replace or6 := or6.ext e11_3
      replace o11_1 := o11_1.ext e11_3
      refine L (D_v (R_not rfl) ?_)
      refine L (D_v (R_move rfl) ?_)
      refine L (D_on rfl rfl (D_v (R_move q5) ?_))
      refine L (D_on rfl rfl (D_callE (R_callF Try.call57 rfl rfl) (c57 w.heap.size v5_1 (y5_1) _ (Nat.le_trans (Nat.le_refl _) hE.size) (by first | omega | (simp only [List.length_take, List.length_drop, List.length_append, List.length_reverse] at *; omega)) ov5_1.ls (sig_sub hsx hc0.sub)) (fun v11_7 w11_7 e11_7 p11_7 => ?_)))
      obtain ⟨y11_7, o11_7, zz11_7, za11_7, zb11_7, zc11_7, zd11_7⟩ := p11_7
      have zv5_1_v11_7 := own_apart ov5_1.1 o11_7.1
      have zv11_7_v5_1 := fun k hk hk2 => zv5_1_v11_7 k hk2 hk
      have zr6_v11_7 := own_apart or6.1 o11_7.1
      have zv11_7_r6 := fun k hk hk2 => zr6_v11_7 k hk2 hk
      have zv11_1_v11_7 := own_apart o11_1.1 o11_7.1
      have zv11_7_v11_1 := fun k hk hk2 => zv11_1_v11_7 k hk2 hk
      replace o11_7 := o11_7.low hE.size
      replace hE := hE.trans e11_7
      replace ov5_1 := ov5_1.ext e11_7
      replace or6 := or6.ext e11_7
      replace o11_1 := o11_1.ext e11_7
      have hc2 := can_of zc11_7 zb11_7 zd11_7
      have hyl2 : y11_7.length ≤ 1000 := by have h9 := ddn_len zz11_7 zz11_7.length; rw [← zd11_7] at h9; refine Nat.le_trans h9 (Nat.le_trans (Nat.le_of_eq za11_7) ?_); first | omega | (simp only [List.length_append, List.length_take, List.length_drop]; omega)
      refine L (D_on rfl rfl (D_v (R_move q5) ?_))
      refine L (D_on rfl rfl (D_call (R_callF Try.call58 rfl rfl) (ret_b (c58 v11_7 v5_1 (y11_7) (y5_1) _ (by omega) (o11_7.ls.up2 (Nat.le_trans (Nat.le_refl _) hE.size)) (ov5_1.ls.up2 (Nat.le_trans (Nat.le_refl _) hE.size))) (can_again hc0 hc2)) (fun w11_9 e11_9 => ?_)))
      replace hE := hE.trans e11_9
      replace ov5_1 := ov5_1.ext e11_9
      replace or6 := or6.ext e11_9
      replace o11_1 := o11_1.ext e11_9
      replace o11_7 := o11_7.ext e11_9
      refine L (D_on rfl rfl (D_v (R_not rfl) ?_))
      refine L (D_v (R_cast (v' := .bool false) (R_pick rfl rfl rfl) rfl) ?_)
      refine S_nil ?_
      refine T_tn ?_
      refine W_iff rfl ?_
      refine wp_skip ?_
      refine T_tn ?_
      refine wp_seq ?_
      refine wp_seq ?_
      refine W_region ?_
      refine L (D_v (R_assign rfl) ?_)
      refine S_nil ?_
      refine T_tn ?_
      refine wp_block ?_
      refine W_loop (fun mz g W => ∃ (i : Nat), mz = y5_1.length - i ∧ g 0 = (cut200 v xs.length) ∧ g 5 = v5_1 ∧ g 9 = i64 ((i : Nat) : Int) ∧ Ext w W ∧ Ow cS w.heap.size w.heap.size W v5_1 y5_1) ⟨0, rfl, q0, q5, rfl, hE, ov5_1⟩ ?_
      rintro mz f13 w13l ⟨i, hm, q0, q5, q9, hE, ov5_1⟩
      refine wp_seq ?_
      refine wp_seq ?_
      refine W_region ?_
      refine L (D_v (R_move q9) ?_)
      refine L (D_v (R_move q5) ?_)
      refine L (D_v (R_len Try.underlying46 rfl ov5_1.ls.1) ?_)
      refine L (D_v (R_lssI rfl rfl) ?_)
      refine S_nil ?_
      refine T_tn ?_
      refine W_if rfl (fun c4 => ?_) (fun c4 => ?_)
      ·
        have li : i < y5_1.length := by have h9 := of_decide_eq_true c4; omega
        refine wp_skip ?_
        refine T_tn ?_
        refine wp_seq ?_
        refine wp_block ?_
        refine wp_seq ?_
        refine W_draw mixed (by kernel_rfl) ?_
        refine Q_v (fun w hw => R_move q9) ?_
        refine Q_v (fun w hw => R_gtrI rfl rfl) ?_
        refine Q_v (fun w hw => R_move rfl) ?_
        refine Q_g1 rfl rfl (fun hb w hw => R_move q5) ?_
        refine Q_g1 rfl rfl (fun hb w hw => R_move q9) ?_
        refine Q_g1 rfl rfl (fun hb w hw => R_subN (m := i) (j := 1) (cgE hb) rfl (by first | ((try simp only [List.length_take, List.length_drop, List.length_append, List.length_cons, List.length_nil]); omega) | (simp at hb; omega)) (by first | ((try simp only [List.length_take, List.length_drop, List.length_append, List.length_cons, List.length_nil]); omega) | (simp at hb; omega))) ?_
        refine Q_g1 rfl rfl (fun hb w hw => R_elAddr (i := (i - 1)) Try.underlying46 Try.sizeOf53 (cgE hb) (cgE hb) (ov5_1.ls.ext hw).1 (by first | ((try simp only [List.length_take, List.length_drop, List.length_append, List.length_cons, List.length_nil]); omega) | (simp at hb; omega))) ?_
        refine Q_g1 rfl rfl (fun hb w hw => R_fieldEl (k := (i - 1) * 23) Try.runUnderlying53 rfl Try.sizeOf26 (ov5_1.ls.ext hw).1 (lel_ltz (C := cS) (s := 23) rfl (by decide) (getD_some (d := Sg.zero) (by first | ((try simp only [List.length_take, List.length_drop, List.length_append, List.length_cons, List.length_nil]); omega) | (simp at hb; omega)))) (cgE hb)) ?_
        refine Q_g1 rfl rfl (fun hb w hw => R_ldP (C := cS) (i := (i - 1)) (k := 0) (y := ((y5_1).getD ((i - 1)) Sg.zero)) (c := ((((y5_1).getD ((i - 1)) Sg.zero)).vote).l) Try.isAgg26 Try.sizeOf26 (cgE hb) (ov5_1.ls.ext hw) (getD_some (d := Sg.zero) (by first | ((try simp only [List.length_take, List.length_drop, List.length_append, List.length_cons, List.length_nil]); omega) | (simp at hb; omega))) (by decide) (by decide) rfl) ?_
        refine Q_g1 rfl rfl (fun hb w hw => R_move q5) ?_
        refine Q_g1 rfl rfl (fun hb w hw => R_move q9) ?_
        refine Q_g1 rfl rfl (fun hb w hw => R_elAddr (i := i) Try.underlying46 Try.sizeOf53 (cgE hb) (cgE hb) (ov5_1.ls.ext hw).1 (by first | ((try simp only [List.length_take, List.length_drop, List.length_append, List.length_cons, List.length_nil]); omega) | (simp at hb; omega))) ?_
        refine Q_g1 rfl rfl (fun hb w hw => R_fieldEl (k := i * 23) Try.runUnderlying53 rfl Try.sizeOf26 (ov5_1.ls.ext hw).1 (lel_ltz (C := cS) (s := 23) rfl (by decide) (getD_some (d := Sg.zero) (by first | ((try simp only [List.length_take, List.length_drop, List.length_append, List.length_cons, List.length_nil]); omega) | (simp at hb; omega)))) (cgE hb)) ?_
        refine Q_g1 rfl rfl (fun hb w hw => R_ldP (C := cS) (i := i) (k := 0) (y := ((y5_1).getD (i) Sg.zero)) (c := ((((y5_1).getD (i) Sg.zero)).vote).l) Try.isAgg26 Try.sizeOf26 (cgE hb) (ov5_1.ls.ext hw) (getD_some (d := Sg.zero) (by first | ((try simp only [List.length_take, List.length_drop, List.length_append, List.length_cons, List.length_nil]); omega) | (simp at hb; omega))) (by decide) (by decide) rfl) ?_
        refine Q_gc1 rfl rfl (fun hb w hw => R_callF Try.call33 (mapv2 (cgE hb) (cgE hb)) rfl) (fun hb w hw => c33 ((((y5_1).getD ((i - 1)) Sg.zero)).vote) ((((y5_1).getD (i) Sg.zero)).vote) _ ) ?_
        refine Q_g1 rfl rfl (fun hb w hw => R_not (cgE hb)) ?_
        refine Q_v (fun w hw => R_pickA rfl rfl rfl) ?_
        refine Q_nil (fun w15_99 e15_99 => ?_)
        replace hE := hE.trans e15_99
        replace ov5_1 := ov5_1.ext e15_99
        refine T_tn ?_
        refine W_if rfl (fun c5 => ?_) (fun c5 => ?_)
        ·
          exfalso; revert c5; by_cases h0 : 0 < i
          · rw [can_up hc0 h0 li]; simp
          · have e0 : decide (((i : Nat) : Int) > 0) = false := decide_eq_false (by omega)
            rw [e0]; simp
        ·
          refine wp_skip ?_
          refine T_bn ?_
          refine T_tn ?_
          refine W_region ?_
          refine L (D_v (R_move q9) ?_)
          refine L (D_v (R_addN (m := i) (j := 1) rfl rfl (by (try simp only [List.length_take, List.length_drop, List.length_append, List.length_cons, List.length_nil, List.length_replicate, List.length_set, Nm.b_len, be2_len]); omega)) ?_)
          refine L (D_v (R_assign rfl) ?_)
          refine S_nil ?_
          refine T_tn ?_
          refine ⟨_, _, ?_, rfl, i + 1, rfl, q0, q5, rfl, hE, ov5_1⟩
          all_goals first | omega
      ·
        refine wp_exit ?_
        refine T_te ?_
        refine T_te ?_
        refine T_be ?_
        refine T_tn ?_
        refine wp_seq ?_
        refine wp_seq ?_
        refine W_region ?_
        refine L (D_v (R_assign rfl) ?_)
        refine S_nil ?_
        refine T_tn ?_
        refine wp_block ?_
        refine W_loop (fun mz g W => ∃ (i : Nat), mz = X.length - i ∧ g 0 = (cut200 v xs.length) ∧ g 5 = v5_1 ∧ g 10 = i64 ((i : Nat) : Int) ∧ Ext w W ∧ Ow cS w.heap.size w.heap.size W v5_1 y5_1) ⟨0, rfl, q0, q5, rfl, hE, ov5_1⟩ ?_
        rintro mz f16 w16l ⟨i, hm, q0, q5, q10, hE, ov5_1⟩
        refine wp_seq ?_
        refine wp_seq ?_
        refine W_region ?_
        refine L (D_v (R_move q10) ?_)
        refine L (D_v (R_move q0) ?_)
        refine L (D_v (R_len Try.underlying46 rfl (h2.ext hE).1) ?_)
        refine L (D_v (R_lssI rfl rfl) ?_)
        refine S_nil ?_
        refine T_tn ?_
        refine W_if rfl (fun c5 => ?_) (fun c5 => ?_)
        ·
          have lx : i < X.length := by have h9 := of_decide_eq_true c5; omega
          refine wp_skip ?_
          refine T_tn ?_
          refine wp_seq ?_
          refine wp_block ?_
          refine wp_seq ?_
          refine W_region ?_
          refine L (D_v (R_assign rfl) ?_)
          refine S_nil ?_
          refine T_tn ?_
          refine wp_seq ?_
          refine wp_seq ?_
          refine W_region ?_
          refine L (D_v (R_assign rfl) ?_)
          refine S_nil ?_
          refine T_tn ?_
          refine wp_block ?_
          refine W_loop (fun mz g W => ∃ (k : Nat) (B : Bool), mz = y5_1.length - k ∧ g 0 = (cut200 v xs.length) ∧ g 5 = v5_1 ∧ g 10 = i64 ((i : Nat) : Int) ∧ g 11 = .bool B ∧ g 12 = i64 ((k : Nat) : Int) ∧ Ext w W ∧ Ow cS w.heap.size w.heap.size W v5_1 y5_1 ∧ (∀ q : Nat, q < k → (y5_1.getD q Sg.zero).vote = (X.getD i Sg.zero).vote → sLe (y5_1.getD q Sg.zero).sig (X.getD i Sg.zero).sig = true → B = true)) ⟨0, false, rfl, q0, q5, q10, rfl, rfl, hE, ov5_1, (fun q hq => absurd hq (by omega))⟩ ?_
          rintro mz f20 w20l ⟨k, B, hm, q0, q5, q10, q11, q12, hE, ov5_1, hB⟩
          refine wp_seq ?_
          refine wp_seq ?_
          refine W_region ?_
          refine L (D_v (R_move q12) ?_)
          refine L (D_v (R_move q5) ?_)
          refine L (D_v (R_len Try.underlying46 rfl ov5_1.ls.1) ?_)
          refine L (D_v (R_lssI rfl rfl) ?_)
          refine S_nil ?_
          refine T_tn ?_
          refine W_if rfl (fun c6 => ?_) (fun c6 => ?_)
          ·
            have lk : k < y5_1.length := by have h9 := of_decide_eq_true c6; omega
            have ka := (ov5_1.ls).get (getD_some (d := Sg.zero) lk)
            have kb := ((h2.ext hE)).get (getD_some (d := Sg.zero) lx)
            refine wp_skip ?_
            refine T_tn ?_
            refine wp_seq ?_
            refine wp_block ?_
            refine W_draw mixed (by kernel_rfl) ?_
            refine Q_v (fun w hw => R_move q11) ?_
            refine Q_v (fun w hw => R_move rfl) ?_
            refine Q_g1 rfl rfl (fun hb w hw => R_move q5) ?_
            refine Q_g1 rfl rfl (fun hb w hw => R_move q12) ?_
            refine Q_g1 rfl rfl (fun hb w hw => R_elAddr (i := k) Try.underlying46 Try.sizeOf53 (cgE hb) (cgE hb) (ov5_1.ls.ext hw).1 (by first | ((try simp only [List.length_take, List.length_drop, List.length_append, List.length_cons, List.length_nil]); omega) | (simp at hb; omega))) ?_
            refine Q_g1 rfl rfl (fun hb w hw => R_fieldEl (k := k * 23) Try.runUnderlying53 rfl Try.sizeOf26 (ov5_1.ls.ext hw).1 (lel_ltz (C := cS) (s := 23) rfl (by decide) (getD_some (d := Sg.zero) (by first | ((try simp only [List.length_take, List.length_drop, List.length_append, List.length_cons, List.length_nil]); omega) | (simp at hb; omega)))) (cgE hb)) ?_
            refine Q_g1 rfl rfl (fun hb w hw => R_ldP (C := cS) (i := k) (k := 0) (y := ((y5_1).getD (k) Sg.zero)) (c := ((((y5_1).getD (k) Sg.zero)).vote).l) Try.isAgg26 Try.sizeOf26 (cgE hb) (ov5_1.ls.ext hw) (getD_some (d := Sg.zero) (by first | ((try simp only [List.length_take, List.length_drop, List.length_append, List.length_cons, List.length_nil]); omega) | (simp at hb; omega))) (by decide) (by decide) rfl) ?_
            refine Q_g1 rfl rfl (fun hb w hw => R_move q0) ?_
            refine Q_g1 rfl rfl (fun hb w hw => R_move q10) ?_
            refine Q_g1 rfl rfl (fun hb w hw => R_elAddr (i := i) Try.underlying46 Try.sizeOf53 (cgE hb) (cgE hb) (h2.ext (hE.trans hw)).1 (by first | ((try simp only [List.length_take, List.length_drop, List.length_append, List.length_cons, List.length_nil]); omega) | (simp at hb; omega))) ?_
            refine Q_g1 rfl rfl (fun hb w hw => R_fieldEl (k := i * 23) Try.runUnderlying53 rfl Try.sizeOf26 (h2.ext (hE.trans hw)).1 (lel_ltz (C := cS) (s := 23) rfl (by decide) (getD_some (d := Sg.zero) (by first | ((try simp only [List.length_take, List.length_drop, List.length_append, List.length_cons, List.length_nil]); omega) | (simp at hb; omega)))) (cgE hb)) ?_
            refine Q_g1 rfl rfl (fun hb w hw => R_ldP (C := cS) (i := i) (k := 0) (y := ((X).getD (i) Sg.zero)) (c := ((((X).getD (i) Sg.zero)).vote).l) Try.isAgg26 Try.sizeOf26 (cgE hb) (h2.ext (hE.trans hw)) (getD_some (d := Sg.zero) (by first | ((try simp only [List.length_take, List.length_drop, List.length_append, List.length_cons, List.length_nil]); omega) | (simp at hb; omega))) (by decide) (by decide) rfl) ?_
            refine Q_g1 rfl rfl (fun hb w hw => R_eqlA Try.eqGuardType26 (eq26 ((((y5_1).getD (k) Sg.zero)).vote) ((((X).getD (i) Sg.zero)).vote) _) (cgE hb) (cgE hb)) ?_
            refine Q_g1 rfl rfl (fun hb w hw => R_move (cgE hb)) ?_
            refine Q_g2 rfl rfl (fun hg hb w hw => R_move q5) ?_
            refine Q_g2 rfl rfl (fun hg hb w hw => R_move q12) ?_
            refine Q_g2 rfl rfl (fun hg hb w hw => R_elAddr (i := k) Try.underlying46 Try.sizeOf53 (cgA hg hb) (cgA hg hb) (ov5_1.ls.ext hw).1 (by first | ((try simp only [List.length_take, List.length_drop, List.length_append, List.length_cons, List.length_nil]); omega) | (simp at hb; omega))) ?_
            refine Q_g2 rfl rfl (fun hg hb w hw => R_fieldEl (k := k * 23) Try.runUnderlying53 rfl Try.sizeOf31 (ov5_1.ls.ext hw).1 (lel_ltz (C := cS) (s := 23) rfl (by decide) (getD_some (d := Sg.zero) (by first | ((try simp only [List.length_take, List.length_drop, List.length_append, List.length_cons, List.length_nil]); omega) | (simp at hb; omega)))) (cgA hg hb)) ?_
            refine Q_g2 rfl rfl (fun hg hb w hw => R_ldC (C := cS) (i := k) (k := 22) (y := ((y5_1).getD (k) Sg.zero)) (u := (.slice (((y5_1).getD (k) Sg.zero)).A (((y5_1).getD (k) Sg.zero)).n (((y5_1).getD (k) Sg.zero)).c)) Try.isAgg31 (cgA hg hb) (ov5_1.ls.ext hw) (getD_some (d := Sg.zero) (by first | ((try simp only [List.length_take, List.length_drop, List.length_append, List.length_cons, List.length_nil]); omega) | (simp at hb; omega))) (by decide) rfl) ?_
            refine Q_g2 rfl rfl (fun hg hb w hw => R_str (b := (((y5_1).getD (k) Sg.zero)).sig) (cgA hg hb) (ka.fb (Fb.ext hw)).bs) ?_
            refine Q_g2 rfl rfl (fun hg hb w hw => R_move q0) ?_
            refine Q_g2 rfl rfl (fun hg hb w hw => R_move q10) ?_
            refine Q_g2 rfl rfl (fun hg hb w hw => R_elAddr (i := i) Try.underlying46 Try.sizeOf53 (cgA hg hb) (cgA hg hb) (h2.ext (hE.trans hw)).1 (by first | ((try simp only [List.length_take, List.length_drop, List.length_append, List.length_cons, List.length_nil]); omega) | (simp at hb; omega))) ?_
            refine Q_g2 rfl rfl (fun hg hb w hw => R_fieldEl (k := i * 23) Try.runUnderlying53 rfl Try.sizeOf31 (h2.ext (hE.trans hw)).1 (lel_ltz (C := cS) (s := 23) rfl (by decide) (getD_some (d := Sg.zero) (by first | ((try simp only [List.length_take, List.length_drop, List.length_append, List.length_cons, List.length_nil]); omega) | (simp at hb; omega)))) (cgA hg hb)) ?_
            refine Q_g2 rfl rfl (fun hg hb w hw => R_ldC (C := cS) (i := i) (k := 22) (y := ((X).getD (i) Sg.zero)) (u := (.slice (((X).getD (i) Sg.zero)).A (((X).getD (i) Sg.zero)).n (((X).getD (i) Sg.zero)).c)) Try.isAgg31 (cgA hg hb) (h2.ext (hE.trans hw)) (getD_some (d := Sg.zero) (by first | ((try simp only [List.length_take, List.length_drop, List.length_append, List.length_cons, List.length_nil]); omega) | (simp at hb; omega))) (by decide) rfl) ?_
            refine Q_g2 rfl rfl (fun hg hb w hw => R_str (b := (((X).getD (i) Sg.zero)).sig) (cgA hg hb) (kb.fb (Fb.ext hw)).bs) ?_
            refine Q_g2 rfl rfl (fun hg hb w hw => R_leqStr (a := (((y5_1).getD (k) Sg.zero)).sig) (b := (((X).getD (i) Sg.zero)).sig) (cgA hg hb) (cgA hg hb)) ?_
            refine Q_g1 rfl rfl (fun hb w hw => R_pickA (cgE hb) (cgD hb) rfl) ?_
            refine Q_v (fun w hw => R_pickO rfl rfl rfl) ?_
            refine Q_v (fun w hw => R_assign rfl) ?_
            refine Q_nil (fun w22_99 e22_99 => ?_)
            replace hE := hE.trans e22_99
            replace ov5_1 := ov5_1.ext e22_99
            replace ka := ka.fb (Fb.ext e22_99)
            replace kb := kb.fb (Fb.ext e22_99)
            refine T_bn ?_
            refine T_tn ?_
            refine W_region ?_
            refine L (D_v (R_move q12) ?_)
            refine L (D_v (R_addN (m := k) (j := 1) rfl rfl (by (try simp only [List.length_take, List.length_drop, List.length_append, List.length_cons, List.length_nil, List.length_replicate, List.length_set, Nm.b_len, be2_len]); omega)) ?_)
            refine L (D_v (R_assign rfl) ?_)
            refine S_nil ?_
            refine T_tn ?_
            refine ⟨_, _, ?_, rfl, k + 1, _, rfl, q0, q5, q10, rfl, rfl, hE, ov5_1, ?_⟩
            all_goals first | omega | (intro q hq h1 h2; exact (Nat.lt_succ_iff_lt_or_eq.1 hq).elim (fun h3 => by rw [hB q h3 h1 h2]; rfl) (fun h3 => by subst h3; rw [h1, h2]; simp))
          ·
            obtain ⟨q, hq, hqe⟩ := can_has hc0 lx
            have hBt : B = true := hB q (by have h9 := of_decide_eq_false c6; omega) hqe.1 hqe.2
            refine wp_exit ?_
            refine T_te ?_
            refine T_te ?_
            refine T_be ?_
            refine T_tn ?_
            refine wp_seq ?_
            refine W_region ?_
            refine L (D_v (R_move q11) ?_)
            refine L (D_v (R_not rfl) ?_)
            refine S_nil ?_
            refine T_tn ?_
            refine W_if rfl (fun c7 => ?_) (fun c7 => ?_)
            ·
              exfalso; rw [hBt] at c7; simp at c7
            ·
              refine wp_skip ?_
              refine T_bn ?_
              refine T_tn ?_
              refine W_region ?_
              refine L (D_v (R_move q10) ?_)
              refine L (D_v (R_addN (m := i) (j := 1) rfl rfl (by (try simp only [List.length_take, List.length_drop, List.length_append, List.length_cons, List.length_nil, List.length_replicate, List.length_set, Nm.b_len, be2_len]); omega)) ?_)
              refine L (D_v (R_assign rfl) ?_)
              refine S_nil ?_
              refine T_tn ?_
              refine ⟨_, _, ?_, rfl, i + 1, rfl, q0, q5, rfl, hE, ov5_1⟩
              all_goals first | omega
        ·
          refine wp_exit ?_
          refine T_te ?_
          refine T_te ?_
          refine T_be ?_
          refine T_tn ?_
          refine wp_seq ?_
          refine W_region ?_
          refine L (D_call (R_callF Try.call56 rfl rfl) (c56 _) (fun w18_0 e18_0 => ?_))
          replace hE := hE.trans e18_0
          refine L (D_v (R_assign rfl) ?_)
          refine S_nil ?_
          refine T_tn ?_
          refine wp_ret ?_
          refine ret1 (v := .bool _) rfl rfl ⟨congrArg (fun b => Ending.returned (Value.bool b)) ?_, hE⟩
          rfl
end Go.Proofs.Yteeopgpgbdhmhaa
