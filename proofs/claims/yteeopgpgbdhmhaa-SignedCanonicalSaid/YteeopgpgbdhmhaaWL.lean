/- Walks of the functions on bytes: merkle. No condition. Printed by wip/mkJ.py. -/
import Derived.Test.YteeopgpgbdhmhaaSm
import Derived.Test.YteeopgpgbdhmhaaWK
namespace Go.Proofs.Yteeopgpgbdhmhaa
open Go.RowKit
set_option linter.unusedVariables false
set_option linter.unusedSimpArgs false
attribute [local irreducible] wpList wpO H wpQuiet wpStill Code.wp Exit.then Exit.inBlock bodyPost Code.rounds Calls valid sameKey conflict lessV hless num between
-- forkledger/merkle.split
set_option maxRecDepth 4000 in
set_option maxHeartbeats 1000000 in
theorem c161 (n : Nat) (w : World) (hn : 1 ≤ n) (hb : n ≤ 1000000) : Calls Try.prog 161 [i64 ((n : Nat) : Int)].toArray w (Ret w (i64 ((split n : Nat) : Int))) := by
  refine enter Try.func161 Try.ntmps161 rfl rfl ?_
  have hE := Ext.refl w
  refine wp_seq ?_
  refine W_region ?_
  refine L (D_v (R_assign rfl) ?_)
  refine S_nil ?_
  refine T_tn ?_
  refine wp_seq ?_
  refine W_region ?_
  refine L (D_v (R_assign rfl) ?_)
  refine S_nil ?_
  refine T_tn ?_
  refine wp_seq ?_
  refine wp_block ?_
  refine W_loop (fun mz g W => ∃ (k : Nat) (f : Nat), mz = n - k ∧ g 0 = i64 ((n : Nat) : Int) ∧ g 3 = i64 ((k : Nat) : Int) ∧ Ext w W ∧ 1 ≤ k ∧ k ≤ n ∧ spl n f k = split n ∧ n - k ≤ f) ⟨1, n, rfl, rfl, rfl, hE, (Nat.le_refl _), hn, rfl, (Nat.sub_le _ _)⟩ ?_
  rintro mz f3 w3l ⟨k, f, hm, q0, q3, hE, hk, hkn, hs, hf⟩
  refine wp_seq ?_
  refine wp_seq ?_
  refine W_region ?_
  refine L (D_v (R_move q3) ?_)
  refine L (D_v (R_move q0) ?_)
  refine L (D_v (R_move q3) ?_)
  refine L (D_v (R_subN (m := n) (j := k) rfl rfl (by (try simp only [List.length_take, List.length_drop, List.length_append, List.length_cons, List.length_nil, List.length_replicate, List.length_set, Nm.b_len, be2_len]); omega) (by (try simp only [List.length_take, List.length_drop, List.length_append, List.length_cons, List.length_nil, List.length_replicate, List.length_set, Nm.b_len, be2_len]); omega)) ?_)
  refine L (D_v (R_lssI rfl rfl) ?_)
  refine S_nil ?_
  refine T_tn ?_
  refine W_if rfl (fun c1 => ?_) (fun c1 => ?_)
  ·
    have lk : k < n - k := by simp at c1; omega
    obtain ⟨f, rfl⟩ : ∃ f2, f = f2 + 1 := ⟨f - 1, by omega⟩
    rw [spl_step lk] at hs
    refine wp_skip ?_
    refine T_tn ?_
    refine wp_block ?_
    refine W_region ?_
    refine L (D_v (R_move q3) ?_)
    refine L (D_v (R_mulN (m := k) (j := 2) rfl rfl (by (try simp only [List.length_take, List.length_drop, List.length_append, List.length_cons, List.length_nil, List.length_replicate, List.length_set, Nm.b_len, be2_len]); omega)) ?_)
    refine L (D_v (R_assign rfl) ?_)
    refine S_nil ?_
    refine T_bn ?_
    refine T_tn ?_
    refine ⟨_, _, ?_, rfl, _, f, rfl, q0, rfl, hE, ?_, ?_, ?_, ?_⟩
    all_goals first | omega | exact hs | (rw [Nat.mul_comm]; exact hs)
  ·
    have lk : ¬ k < n - k := by simp at c1; omega
    rw [spl_end lk] at hs
    refine wp_exit ?_
    refine T_te ?_
    refine T_te ?_
    refine T_be ?_
    refine T_tn ?_
    refine wp_seq ?_
    refine W_region ?_
    refine L (D_v (R_move q3) ?_)
    refine L (D_v (R_assign rfl) ?_)
    refine S_nil ?_
    refine T_tn ?_
    refine wp_ret ?_
    refine ret1 (v := .int _ _) rfl rfl ⟨?_, hE⟩
    rw [hs]; rfl

-- forkledger/forkledgerref1.split
set_option maxRecDepth 4000 in
set_option maxHeartbeats 1000000 in
theorem c141 (n : Nat) (w : World) (hn : 1 ≤ n) (hb : n ≤ 1000000) : Calls Try.prog 141 [i64 ((n : Nat) : Int)].toArray w (Ret w (i64 ((split n : Nat) : Int))) := by
  refine enter Try.func141 Try.ntmps141 rfl rfl ?_
  have hE := Ext.refl w
  refine wp_seq ?_
  refine W_region ?_
  refine L (D_v (R_assign rfl) ?_)
  refine S_nil ?_
  refine T_tn ?_
  refine wp_seq ?_
  refine W_region ?_
  refine L (D_v (R_assign rfl) ?_)
  refine S_nil ?_
  refine T_tn ?_
  refine wp_seq ?_
  refine wp_block ?_
  refine W_loop (fun mz g W => ∃ (k : Nat) (f : Nat), mz = n - k ∧ g 0 = i64 ((n : Nat) : Int) ∧ g 3 = i64 ((k : Nat) : Int) ∧ Ext w W ∧ 1 ≤ k ∧ k ≤ n ∧ spl n f k = split n ∧ n - k ≤ f) ⟨1, n, rfl, rfl, rfl, hE, (Nat.le_refl _), hn, rfl, (Nat.sub_le _ _)⟩ ?_
  rintro mz f3 w3l ⟨k, f, hm, q0, q3, hE, hk, hkn, hs, hf⟩
  refine wp_seq ?_
  refine wp_seq ?_
  refine W_region ?_
  refine L (D_v (R_move q3) ?_)
  refine L (D_v (R_move q0) ?_)
  refine L (D_v (R_move q3) ?_)
  refine L (D_v (R_subN (m := n) (j := k) rfl rfl (by (try simp only [List.length_take, List.length_drop, List.length_append, List.length_cons, List.length_nil, List.length_replicate, List.length_set, Nm.b_len, be2_len]); omega) (by (try simp only [List.length_take, List.length_drop, List.length_append, List.length_cons, List.length_nil, List.length_replicate, List.length_set, Nm.b_len, be2_len]); omega)) ?_)
  refine L (D_v (R_lssI rfl rfl) ?_)
  refine S_nil ?_
  refine T_tn ?_
  refine W_if rfl (fun c1 => ?_) (fun c1 => ?_)
  ·
    have lk : k < n - k := by simp at c1; omega
    obtain ⟨f, rfl⟩ : ∃ f2, f = f2 + 1 := ⟨f - 1, by omega⟩
    rw [spl_step lk] at hs
    refine wp_skip ?_
    refine T_tn ?_
    refine wp_block ?_
    refine W_region ?_
    refine L (D_v (R_move q3) ?_)
    refine L (D_v (R_mulN (m := 2) (j := k) rfl rfl (by (try simp only [List.length_take, List.length_drop, List.length_append, List.length_cons, List.length_nil, List.length_replicate, List.length_set, Nm.b_len, be2_len]); omega)) ?_)
    refine L (D_v (R_assign rfl) ?_)
    refine S_nil ?_
    refine T_bn ?_
    refine T_tn ?_
    refine ⟨_, _, ?_, rfl, _, f, rfl, q0, rfl, hE, ?_, ?_, ?_, ?_⟩
    all_goals first | omega | exact hs | (rw [Nat.mul_comm]; exact hs)
  ·
    have lk : ¬ k < n - k := by simp at c1; omega
    rw [spl_end lk] at hs
    refine wp_exit ?_
    refine T_te ?_
    refine T_te ?_
    refine T_be ?_
    refine T_tn ?_
    refine wp_seq ?_
    refine W_region ?_
    refine L (D_v (R_move q3) ?_)
    refine L (D_v (R_assign rfl) ?_)
    refine S_nil ?_
    refine T_tn ?_
    refine wp_ret ?_
    refine ret1 (v := .int _ _) rfl rfl ⟨?_, hE⟩
    rw [hs]; rfl

-- forkledger/merkle.Depth
set_option maxRecDepth 4000 in
set_option maxHeartbeats 1000000 in
theorem c176 (i0 n0 : Nat) (I : Int) (w : World) (hI : I = ((i0 : Nat) : Int)) (hi : i0 < n0) (hb : n0 ≤ 1000000) : Calls Try.prog 176 [i64 I, i64 ((n0 : Nat) : Int)].toArray w (Ret w (i64 ((dep n0 i0 n0 : Nat) : Int))) := by
  refine enter Try.func176 Try.ntmps176 rfl rfl ?_
  have hE := Ext.refl w
  refine wp_seq ?_
  refine W_region ?_
  refine L (D_v (R_assign rfl) ?_)
  refine S_nil ?_
  refine T_tn ?_
  refine wp_seq ?_
  refine wp_seq ?_
  refine W_region ?_
  refine L (D_v (R_move rfl) ?_)
  refine L (D_v (R_lssI rfl rfl) ?_)
  refine L (D_v (R_move rfl) ?_)
  refine L (D_g1 rfl rfl (fun hb => R_move rfl) ?_)
  refine L (D_g1 rfl rfl (fun hb => R_move rfl) ?_)
  refine L (D_g1 rfl rfl (fun hb => R_geqI (cgE hb) (cgE hb)) ?_)
  refine L (D_v (R_pickO rfl rfl rfl) ?_)
  refine S_nil ?_
  refine T_tn ?_
  refine W_if rfl (fun c1 => ?_) (fun c1 => ?_)
  ·
    subst hI
    exfalso; revert c1; simp; omega
  ·
    subst hI
    refine wp_skip ?_
    refine T_tn ?_
    refine wp_seq ?_
    refine W_region ?_
    refine L (D_v (R_assign rfl) ?_)
    refine S_nil ?_
    refine T_tn ?_
    refine wp_seq ?_
    refine wp_block ?_
    refine W_loop (fun mz g W => ∃ (i : Nat) (n : Nat) (d : Nat) (f : Nat), mz = n + 0 ∧ g 0 = i64 ((i : Nat) : Int) ∧ g 1 = i64 ((n : Nat) : Int) ∧ g 5 = i64 ((d : Nat) : Int) ∧ Ext w W ∧ i < n ∧ n ≤ 1000000 ∧ n ≤ f ∧ d + dep f i n = dep n0 i0 n0 ∧ d + n ≤ 1000000) ⟨i0, n0, 0, n0, rfl, rfl, rfl, rfl, hE, hi, hb, (Nat.le_refl _), (by simp), (by simpa using hb)⟩ ?_
    rintro mz f4 w4l ⟨i, n, d, f, hm, q0, q1, q5, hE, hi, hb, hf, hd, hdb⟩
    refine wp_seq ?_
    refine wp_seq ?_
    refine W_region ?_
    refine L (D_v (R_move q1) ?_)
    refine L (D_v (R_gtrI rfl rfl) ?_)
    refine S_nil ?_
    refine T_tn ?_
    refine W_if rfl (fun c2 => ?_) (fun c2 => ?_)
    ·
      have lk : 1 < n := by simp at c2; omega
      obtain ⟨f, rfl⟩ : ∃ f2, f = f2 + 1 := ⟨f - 1, by omega⟩
      have hsb := split_bound (n := n) (by omega)
      refine wp_skip ?_
      refine T_tn ?_
      refine wp_block ?_
      refine wp_seq ?_
      refine W_region ?_
      refine L (D_v (R_move q1) ?_)
      refine L (D_call (R_callF Try.call161 rfl rfl) (c161 (n) _ (by omega) (by omega)) (fun w6_1 e6_1 => ?_))
      replace hE := hE.trans e6_1
      refine L (D_v (R_assign rfl) ?_)
      refine S_nil ?_
      refine T_tn ?_
      refine wp_seq ?_
      refine wp_seq ?_
      refine W_region ?_
      refine L (D_v (R_move q0) ?_)
      refine L (D_v (R_move rfl) ?_)
      refine L (D_v (R_lssI rfl rfl) ?_)
      refine S_nil ?_
      refine T_tn ?_
      refine W_if rfl (fun c3 => ?_) (fun c3 => ?_)
      ·
        have lj : i < split n := by simp at c3; omega
        rw [dep_lo lk lj] at hd
        refine W_region ?_
        refine L (D_v (R_move rfl) ?_)
        refine L (D_v (R_assign rfl) ?_)
        refine S_nil ?_
        refine T_tn ?_
        refine W_region ?_
        refine L (D_v (R_move q5) ?_)
        refine L (D_v (R_addN (m := d) (j := 1) rfl rfl (by (try simp only [List.length_take, List.length_drop, List.length_append, List.length_cons, List.length_nil, List.length_replicate, List.length_set, Nm.b_len, be2_len]); omega)) ?_)
        refine L (D_v (R_assign rfl) ?_)
        refine S_nil ?_
        refine T_bn ?_
        refine T_tn ?_
        refine ⟨_, _, ?_, rfl, _, _, _, f, rfl, q0, rfl, rfl, hE, ?_, ?_, ?_, ?_, ?_⟩
        all_goals first | omega
      ·
        have lj : ¬ i < split n := by simp at c3; omega
        rw [dep_hi lk lj] at hd
        refine W_region ?_
        refine L (D_v (R_move q0) ?_)
        refine L (D_v (R_move rfl) ?_)
        refine L (D_v (R_subN (m := i) (j := (split (n))) rfl rfl (by (try simp only [List.length_take, List.length_drop, List.length_append, List.length_cons, List.length_nil, List.length_replicate, List.length_set, Nm.b_len, be2_len]); omega) (by (try simp only [List.length_take, List.length_drop, List.length_append, List.length_cons, List.length_nil, List.length_replicate, List.length_set, Nm.b_len, be2_len]); omega)) ?_)
        refine L (D_v (R_move q1) ?_)
        refine L (D_v (R_move rfl) ?_)
        refine L (D_v (R_subN (m := n) (j := (split (n))) rfl rfl (by (try simp only [List.length_take, List.length_drop, List.length_append, List.length_cons, List.length_nil, List.length_replicate, List.length_set, Nm.b_len, be2_len]); omega) (by (try simp only [List.length_take, List.length_drop, List.length_append, List.length_cons, List.length_nil, List.length_replicate, List.length_set, Nm.b_len, be2_len]); omega)) ?_)
        refine L (D_v (R_assign rfl) ?_)
        refine L (D_v (R_assign rfl) ?_)
        refine S_nil ?_
        refine T_tn ?_
        refine W_region ?_
        refine L (D_v (R_move q5) ?_)
        refine L (D_v (R_addN (m := d) (j := 1) rfl rfl (by (try simp only [List.length_take, List.length_drop, List.length_append, List.length_cons, List.length_nil, List.length_replicate, List.length_set, Nm.b_len, be2_len]); omega)) ?_)
        refine L (D_v (R_assign rfl) ?_)
        refine S_nil ?_
        refine T_bn ?_
        refine T_tn ?_
        refine ⟨_, _, ?_, rfl, _, _, _, f, rfl, rfl, rfl, rfl, hE, ?_, ?_, ?_, ?_, ?_⟩
        all_goals first | omega
    ·
      have lk : ¬ 1 < n := by simp at c2; omega
      rw [dep_end lk] at hd
      refine wp_exit ?_
      refine T_te ?_
      refine T_te ?_
      refine T_be ?_
      refine T_tn ?_
      refine wp_seq ?_
      refine W_region ?_
      refine L (D_v (R_move q5) ?_)
      refine L (D_v (R_assign rfl) ?_)
      refine S_nil ?_
      refine T_tn ?_
      refine wp_ret ?_
      refine ret1 (v := .int _ _) rfl rfl ⟨?_, hE⟩
      rw [← hd]; rfl

-- forkledger/forkledgerref1.Depth
set_option maxRecDepth 4000 in
set_option maxHeartbeats 1000000 in
theorem c184 (i0 n0 : Nat) (I : Int) (w : World) (hI : I = ((i0 : Nat) : Int)) (hi : i0 < n0) (hb : n0 ≤ 1000000) : Calls Try.prog 184 [i64 I, i64 ((n0 : Nat) : Int)].toArray w (Ret w (i64 ((dep n0 i0 n0 : Nat) : Int))) := by
  refine enter Try.func184 Try.ntmps184 rfl rfl ?_
  have hE := Ext.refl w
  refine wp_seq ?_
  refine W_region ?_
  refine L (D_v (R_assign rfl) ?_)
  refine S_nil ?_
  refine T_tn ?_
  refine wp_seq ?_
  refine wp_seq ?_
  refine W_region ?_
  refine L (D_v (R_move rfl) ?_)
  refine L (D_v (R_lssI rfl rfl) ?_)
  refine L (D_v (R_move rfl) ?_)
  refine L (D_g1 rfl rfl (fun hb => R_move rfl) ?_)
  refine L (D_g1 rfl rfl (fun hb => R_move rfl) ?_)
  refine L (D_g1 rfl rfl (fun hb => R_geqI (cgE hb) (cgE hb)) ?_)
  refine L (D_v (R_pickO rfl rfl rfl) ?_)
  refine S_nil ?_
  refine T_tn ?_
  refine W_if rfl (fun c1 => ?_) (fun c1 => ?_)
  ·
    subst hI
    exfalso; revert c1; simp; omega
  ·
    subst hI
    refine wp_skip ?_
    refine T_tn ?_
    refine wp_seq ?_
    refine W_region ?_
    refine L (D_v (R_assign rfl) ?_)
    refine S_nil ?_
    refine T_tn ?_
    refine wp_seq ?_
    refine wp_block ?_
    refine W_loop (fun mz g W => ∃ (i : Nat) (n : Nat) (d : Nat) (f : Nat), mz = n + 0 ∧ g 0 = i64 ((i : Nat) : Int) ∧ g 1 = i64 ((n : Nat) : Int) ∧ g 5 = i64 ((d : Nat) : Int) ∧ Ext w W ∧ i < n ∧ n ≤ 1000000 ∧ n ≤ f ∧ d + dep f i n = dep n0 i0 n0 ∧ d + n ≤ 1000000) ⟨i0, n0, 0, n0, rfl, rfl, rfl, rfl, hE, hi, hb, (Nat.le_refl _), (by simp), (by simpa using hb)⟩ ?_
    rintro mz f4 w4l ⟨i, n, d, f, hm, q0, q1, q5, hE, hi, hb, hf, hd, hdb⟩
    refine wp_seq ?_
    refine wp_seq ?_
    refine W_region ?_
    refine L (D_v (R_move q1) ?_)
    refine L (D_v (R_gtrI rfl rfl) ?_)
    refine S_nil ?_
    refine T_tn ?_
    refine W_if rfl (fun c2 => ?_) (fun c2 => ?_)
    ·
      have lk : 1 < n := by simp at c2; omega
      obtain ⟨f, rfl⟩ : ∃ f2, f = f2 + 1 := ⟨f - 1, by omega⟩
      have hsb := split_bound (n := n) (by omega)
      refine wp_skip ?_
      refine T_tn ?_
      refine wp_block ?_
      refine wp_seq ?_
      refine W_region ?_
      refine L (D_v (R_move q1) ?_)
      refine L (D_call (R_callF Try.call141 rfl rfl) (c141 (n) _ (by omega) (by omega)) (fun w6_1 e6_1 => ?_))
      replace hE := hE.trans e6_1
      refine L (D_v (R_assign rfl) ?_)
      refine S_nil ?_
      refine T_tn ?_
      refine wp_seq ?_
      refine wp_seq ?_
      refine W_region ?_
      refine L (D_v (R_move q0) ?_)
      refine L (D_v (R_move rfl) ?_)
      refine L (D_v (R_lssI rfl rfl) ?_)
      refine S_nil ?_
      refine T_tn ?_
      refine W_if rfl (fun c3 => ?_) (fun c3 => ?_)
      ·
        have lj : i < split n := by simp at c3; omega
        rw [dep_lo lk lj] at hd
        refine W_region ?_
        refine L (D_v (R_move rfl) ?_)
        refine L (D_v (R_assign rfl) ?_)
        refine S_nil ?_
        refine T_tn ?_
        refine W_region ?_
        refine L (D_v (R_move q5) ?_)
        refine L (D_v (R_addN (m := d) (j := 1) rfl rfl (by (try simp only [List.length_take, List.length_drop, List.length_append, List.length_cons, List.length_nil, List.length_replicate, List.length_set, Nm.b_len, be2_len]); omega)) ?_)
        refine L (D_v (R_assign rfl) ?_)
        refine S_nil ?_
        refine T_bn ?_
        refine T_tn ?_
        refine ⟨_, _, ?_, rfl, _, _, _, f, rfl, q0, rfl, rfl, hE, ?_, ?_, ?_, ?_, ?_⟩
        all_goals first | omega
      ·
        have lj : ¬ i < split n := by simp at c3; omega
        rw [dep_hi lk lj] at hd
        refine W_region ?_
        refine L (D_v (R_move q0) ?_)
        refine L (D_v (R_move rfl) ?_)
        refine L (D_v (R_subN (m := i) (j := (split (n))) rfl rfl (by (try simp only [List.length_take, List.length_drop, List.length_append, List.length_cons, List.length_nil, List.length_replicate, List.length_set, Nm.b_len, be2_len]); omega) (by (try simp only [List.length_take, List.length_drop, List.length_append, List.length_cons, List.length_nil, List.length_replicate, List.length_set, Nm.b_len, be2_len]); omega)) ?_)
        refine L (D_v (R_move q1) ?_)
        refine L (D_v (R_move rfl) ?_)
        refine L (D_v (R_subN (m := n) (j := (split (n))) rfl rfl (by (try simp only [List.length_take, List.length_drop, List.length_append, List.length_cons, List.length_nil, List.length_replicate, List.length_set, Nm.b_len, be2_len]); omega) (by (try simp only [List.length_take, List.length_drop, List.length_append, List.length_cons, List.length_nil, List.length_replicate, List.length_set, Nm.b_len, be2_len]); omega)) ?_)
        refine L (D_v (R_assign rfl) ?_)
        refine L (D_v (R_assign rfl) ?_)
        refine S_nil ?_
        refine T_tn ?_
        refine W_region ?_
        refine L (D_v (R_move q5) ?_)
        refine L (D_v (R_addN (m := d) (j := 1) rfl rfl (by (try simp only [List.length_take, List.length_drop, List.length_append, List.length_cons, List.length_nil, List.length_replicate, List.length_set, Nm.b_len, be2_len]); omega)) ?_)
        refine L (D_v (R_assign rfl) ?_)
        refine S_nil ?_
        refine T_bn ?_
        refine T_tn ?_
        refine ⟨_, _, ?_, rfl, _, _, _, f, rfl, rfl, rfl, rfl, hE, ?_, ?_, ?_, ?_, ?_⟩
        all_goals first | omega
    ·
      have lk : ¬ 1 < n := by simp at c2; omega
      rw [dep_end lk] at hd
      refine wp_exit ?_
      refine T_te ?_
      refine T_te ?_
      refine T_be ?_
      refine T_tn ?_
      refine wp_seq ?_
      refine W_region ?_
      refine L (D_v (R_move q5) ?_)
      refine L (D_v (R_assign rfl) ?_)
      refine S_nil ?_
      refine T_tn ?_
      refine wp_ret ?_
      refine ret1 (v := .int _ _) rfl rfl ⟨?_, hE⟩
      rw [← hd]; rfl

-- forkledger/hash.Pair
set_option maxRecDepth 4000 in
set_option maxHeartbeats 1000000 in
theorem c162 (t : UInt8) (a b : Nm) (w : World) : Calls Try.prog 162 [u8 t, a.v, b.v].toArray w (Ret w (pairH t a b).v) := by
  refine enter Try.func162 Try.ntmps162 rfl rfl ?_
  have hE := Ext.refl w
  refine wp_seq ?_
  refine W_region ?_
  refine L (D_box (c := (a).l) (rfl) (fun aB1_0 w1_0 e1_0 gB1_0 hB1_0 => ?_))
  have lB1_0 := Nat.le_trans hE.size gB1_0
  replace hE := hE.trans e1_0
  refine L (D_box (c := (b).l) (rfl) (fun aB1_1 w1_1 e1_1 gB1_1 hB1_1 => ?_))
  have lB1_1 := Nat.le_trans hE.size gB1_1
  have nB1_0B1_1 := hB1_0.ne gB1_1
  replace hE := hE.trans e1_1
  replace hB1_0 := hB1_0.ext e1_1
  refine L (D_alloc (c := (Nm.zero).l) Try.zeroValue24 rfl (fun aB1_2 w1_2 e1_2 gB1_2 hB1_2 => ?_))
  have lB1_2 := Nat.le_trans hE.size gB1_2
  have nB1_0B1_2 := hB1_0.ne gB1_2
  have nB1_1B1_2 := hB1_1.ne gB1_2
  replace hE := hE.trans e1_2
  replace hB1_0 := hB1_0.ext e1_2
  replace hB1_1 := hB1_1.ext e1_2
  refine S_nil ?_
  refine T_tn ?_
  refine wp_seq ?_
  refine W_region ?_
  refine L (D_alloc (c := (List.replicate 16 (u8 0))) Try.zeroValue178 rfl (fun aB2_0 w2_0 e2_0 gB2_0 hB2_0 => ?_))
  have lB2_0 := Nat.le_trans hE.size gB2_0
  have nB1_0B2_0 := hB1_0.ne gB2_0
  have nB1_1B2_0 := hB1_1.ne gB2_0
  have nB1_2B2_0 := hB1_2.ne gB2_0
  replace hE := hE.trans e2_0
  replace hB1_0 := hB1_0.ext e2_0
  replace hB1_1 := hB1_1.ext e2_0
  replace hB1_2 := hB1_2.ext e2_0
  refine S_nil ?_
  refine T_tn ?_
  refine wp_seq ?_
  refine W_tail 2 mixed (by kernel_rfl) (fun w3_99 e3_99 => ?_)
  replace hE := hE.trans e3_99
  replace hB1_0 := hB1_0.ext e3_99
  replace hB1_1 := hB1_1.ext e3_99
  replace hB1_2 := hB1_2.ext e3_99
  replace hB2_0 := hB2_0.ext e3_99
  refine T_v (R_sliceArr (len := 15) Try.underlying178 Try.sizeOf5 rfl) ?_
  refine T_v (R_sliceArr (len := 7) Try.underlying24 Try.sizeOf5 rfl) ?_
  refine T_nil ?_
  have h0 := hB2_0
  refine L (D_copyBlk (l' := ((a).l ++ List.replicate 8 (u8 0))) Try.underlying31 Try.sizeOf5 rfl rfl hB2_0 rfl (hB1_0.bs 0 (a).b rfl rfl rfl) (bl_plain _) rfl (fun w3_2 k3_2 hB2_0 => ?_))
  replace hE := hE.kp k3_2 lB2_0
  replace hB1_0 := hB1_0.kp k3_2 nB1_0B2_0
  replace hB1_1 := hB1_1.kp k3_2 nB1_1B2_0
  replace hB1_2 := hB1_2.kp k3_2 nB1_2B2_0
  refine S_nil ?_
  refine T_tn ?_
  refine wp_seq ?_
  refine W_tail 2 mixed (by kernel_rfl) (fun w4_99 e4_99 => ?_)
  replace hE := hE.trans e4_99
  replace hB1_1 := hB1_1.ext e4_99
  replace hB1_2 := hB1_2.ext e4_99
  replace hB2_0 := hB2_0.ext e4_99
  refine T_v (R_sliceArrLo (len := 15) (i := 8) Try.underlying178 Try.sizeOf5 rfl rfl (by decide)) ?_
  refine T_v (R_sliceArr (len := 7) Try.underlying24 Try.sizeOf5 rfl) ?_
  refine T_nil ?_
  have h0 := hB2_0
  refine L (D_copyBlk (l' := ((a).l ++ (b).l)) Try.underlying31 Try.sizeOf5 rfl rfl hB2_0 rfl (hB1_1.bs 0 (b).b rfl rfl rfl) (bl_plain _) rfl (fun w4_2 k4_2 hB2_0 => ?_))
  replace hE := hE.kp k4_2 lB2_0
  replace hB1_1 := hB1_1.kp k4_2 nB1_1B2_0
  replace hB1_2 := hB1_2.kp k4_2 nB1_2B2_0
  refine S_nil ?_
  refine T_tn ?_
  refine wp_seq ?_
  refine W_region ?_
  refine L (D_v (R_move rfl) ?_)
  refine L (D_v (R_sliceArr (len := 15) Try.underlying178 Try.sizeOf5 rfl) ?_)
  refine L (D_call (R_callF Try.call37 rfl rfl) (c37 t (.slice (some ⟨aB2_0, 0, none⟩) 16 16) ((a.b ++ b.b)) _ (hB2_0.bs 0 (a.b ++ b.b) rfl rfl rfl) (by (try simp only [List.length_take, List.length_drop, List.length_append, List.length_cons, List.length_nil, List.length_replicate, List.length_set, Nm.b_len, be2_len]); omega)) (fun w5_2 e5_2 => ?_))
  replace hE := hE.trans e5_2
  replace hB1_2 := hB1_2.ext e5_2
  replace hB2_0 := hB2_0.ext e5_2
  have h0 := hB1_2
  refine L (D_storeA Try.sizeOf24 hB1_2 rfl rfl rfl rfl rfl (l' := ((hashB (t :: (a.b ++ b.b)))).l) rfl (fun w5_3 k5_3 hB1_2 => ?_))
  replace hE := hE.kp k5_3 lB1_2
  replace hB2_0 := hB2_0.kp k5_3 nB1_2B2_0.symm
  refine S_nil ?_
  refine T_tn ?_
  refine wp_ret ?_
  refine retc (c := ((hashB (t :: (a.b ++ b.b)))).l) rfl rfl Try.isAgg24 Try.sizeOf24 hB1_2 rfl rfl ⟨?_, hE⟩
  rfl

-- forkledger/merkle.computed
set_option maxRecDepth 4000 in
set_option maxHeartbeats 2000000 in
theorem c182s (F : Nat) (ih : ∀ (leaf : Nm) (i n : Nat) (v : Value) (path : List Nm) (w : World), n ≤ F → i < n → n ≤ 1000000 → path.length = dep F i n → Ls cN w.heap.size w v path → Calls Try.prog 182 [leaf.v, i64 ((i : Nat) : Int), i64 ((n : Nat) : Int), v].toArray w (Ret w (cmp F leaf i n path).v)) (leaf : Nm) (i n : Nat) (v : Value) (path : List Nm) (w : World) (hn : n ≤ F + 1) (hi : i < n) (hb : n ≤ 1000000) (hp : path.length = dep (F + 1) i n) (h : Ls cN w.heap.size w v path) : Calls Try.prog 182 [leaf.v, i64 ((i : Nat) : Int), i64 ((n : Nat) : Int), v].toArray w (Ret w (cmp (F + 1) leaf i n path).v) := by
  refine enter Try.func182 Try.ntmps182 rfl rfl ?_
  have hE := Ext.refl w
  have hpb := dep_le_n (F + 1) i n
  refine wp_seq ?_
  refine W_region ?_
  refine L (D_box (c := (leaf).l) (rfl) (fun aB1_0 w1_0 e1_0 gB1_0 hB1_0 => ?_))
  have lB1_0 := Nat.le_trans hE.size gB1_0
  replace hE := hE.trans e1_0
  refine L (D_alloc (c := (Nm.zero).l) Try.zeroValue24 rfl (fun aB1_1 w1_1 e1_1 gB1_1 hB1_1 => ?_))
  have lB1_1 := Nat.le_trans hE.size gB1_1
  have nB1_0B1_1 := hB1_0.ne gB1_1
  replace hE := hE.trans e1_1
  replace hB1_0 := hB1_0.ext e1_1
  refine S_nil ?_
  refine T_tn ?_
  refine wp_seq ?_
  refine wp_seq ?_
  refine W_region ?_
  refine L (D_v (R_move rfl) ?_)
  refine L (D_v (R_eqlI rfl rfl) ?_)
  refine S_nil ?_
  refine T_tn ?_
  refine W_if rfl (fun c1 => ?_) (fun c1 => ?_)
  ·
    obtain rfl : n = 1 := by simp at c1; omega
    refine wp_seq ?_
    refine W_region ?_
    refine L (D_v (R_loadA (c := (leaf).l) Try.isAgg24 Try.sizeOf24 hB1_0 rfl rfl rfl) ?_)
    refine L (D_call (R_callF Try.call160 rfl rfl) (c160 (leaf) _) (fun w3_1 e3_1 => ?_))
    replace hE := hE.trans e3_1
    replace hB1_0 := hB1_0.ext e3_1
    replace hB1_1 := hB1_1.ext e3_1
    have h0 := hB1_1
    refine L (D_storeA Try.sizeOf24 hB1_1 rfl rfl rfl rfl rfl (l' := ((leafH leaf)).l) rfl (fun w3_2 k3_2 hB1_1 => ?_))
    replace hE := hE.kp k3_2 lB1_1
    replace hB1_0 := hB1_0.kp k3_2 nB1_0B1_1
    refine S_nil ?_
    refine T_tn ?_
    refine wp_ret ?_
    refine T_tr ?_
    refine retc (c := ((leafH leaf)).l) rfl rfl Try.isAgg24 Try.sizeOf24 hB1_1 rfl rfl ⟨?_, hE⟩
    rw [cmp_one]; rfl
  ·
    have hn1 : n ≠ 1 := by intro e; subst e; simp at c1
    have hsb := split_bound (n := n) (by omega)
    have hpos : 1 ≤ path.length := by rw [hp]; exact (Nat.lt_or_ge i (split n)).elim (fun hj => by rw [dep_lo (by omega) hj]; omega) (fun hj => by rw [dep_hi (by omega) (by omega)]; omega)
    refine wp_skip ?_
    refine T_tn ?_
    refine wp_seq ?_
    refine W_region ?_
    refine L (D_v (R_move rfl) ?_)
    refine L (D_call (R_callF Try.call161 rfl rfl) (c161 (n) _ (by omega) (by omega)) (fun w3_1 e3_1 => ?_))
    replace hE := hE.trans e3_1
    replace hB1_0 := hB1_0.ext e3_1
    replace hB1_1 := hB1_1.ext e3_1
    refine L (D_v (R_move rfl) ?_)
    refine L (D_v (R_len Try.underlying45 rfl (h.ext hE).1) ?_)
    refine L (D_v (R_subN (m := (path).length) (j := 1) rfl rfl (by (try simp only [List.length_take, List.length_drop, List.length_append, List.length_cons, List.length_nil, List.length_replicate, List.length_set, Nm.b_len, be2_len]); omega) (by (try simp only [List.length_take, List.length_drop, List.length_append, List.length_cons, List.length_nil, List.length_replicate, List.length_set, Nm.b_len, be2_len]); omega)) ?_)
    refine L (D_v (R_assign rfl) ?_)
    refine L (D_v (R_assign rfl) ?_)
    refine S_nil ?_
    refine T_tn ?_
    refine wp_seq ?_
    refine wp_seq ?_
    refine W_region ?_
    refine L (D_v (R_move rfl) ?_)
    refine L (D_v (R_move rfl) ?_)
    refine L (D_v (R_lssI rfl rfl) ?_)
    refine S_nil ?_
    refine T_tn ?_
    refine W_if rfl (fun c2 => ?_) (fun c2 => ?_)
    ·
      have lk : i < split n := by simp at c2; omega
      rw [dep_lo (by omega) lk] at hp hpb
      refine wp_seq ?_
      refine W_held (fun W => Ext w W ∧ Blk W aB1_0 (leaf).l 24 ∧ True) mixed (fun w5_99 e5_99 => ?_)
      replace hE := hE.trans e5_99
      replace hB1_0 := hB1_0.ext e5_99
      replace hB1_1 := hB1_1.ext e5_99
      refine H_take (i := 0) rfl (by kernel_rfl) (by kernel_rfl) (by kernel_rfl) rfl (pq_then (pq_then pq_body)) ⟨hE, hB1_0, trivial⟩ rfl (fun w hw => R_loadA (c := (leaf).l) Try.isAgg24 Try.sizeOf24 hw.2.1 rfl rfl rfl) ?_
      refine H_take (i := 1) rfl (by kernel_rfl) (by kernel_rfl) (by kernel_rfl) rfl (pq_then (pq_then pq_body)) ⟨hE, hB1_0, trivial⟩ rfl (fun w hw => R_move rfl) ?_
      refine H_take (i := 2) rfl (by kernel_rfl) (by kernel_rfl) (by kernel_rfl) rfl (pq_then (pq_then pq_body)) ⟨hE, hB1_0, trivial⟩ rfl (fun w hw => R_move rfl) ?_
      refine H_take (i := 3) rfl (by kernel_rfl) (by kernel_rfl) (by kernel_rfl) rfl (pq_then (pq_then pq_body)) ⟨hE, hB1_0, trivial⟩ rfl (fun w hw => R_move rfl) ?_
      refine H_take (i := 4) rfl (by kernel_rfl) (by kernel_rfl) (by kernel_rfl) rfl (pq_then (pq_then pq_body)) ⟨hE, hB1_0, trivial⟩ rfl (fun w hw => R_move rfl) ?_
      refine H_take (i := 5) rfl (by kernel_rfl) (by kernel_rfl) (by kernel_rfl) rfl (pq_then (pq_then pq_body)) ⟨hE, hB1_0, trivial⟩ rfl (fun w hw => R_sliceHi (j := ((path).length - 1)) Try.underlying45 Try.sizeOf24 rfl rfl (h.ext hw.1).1 (by (try simp only [List.length_take, List.length_drop, List.length_append, List.length_cons, List.length_nil, List.length_replicate, List.length_set, Nm.b_len, be2_len]); omega)) ?_
      refine H_take (i := 7) rfl (by kernel_rfl) (by kernel_rfl) (by kernel_rfl) rfl (pq_then (pq_then pq_body)) ⟨hE, hB1_0, trivial⟩ rfl (fun w hw => R_move rfl) ?_
      refine H_take (i := 8) rfl (by kernel_rfl) (by kernel_rfl) (by kernel_rfl) rfl (pq_then (pq_then pq_body)) ⟨hE, hB1_0, trivial⟩ rfl (fun w hw => R_move rfl) ?_
      refine H_take (i := 9) rfl (by kernel_rfl) (by kernel_rfl) (by kernel_rfl) rfl (pq_then (pq_then pq_body)) ⟨hE, hB1_0, trivial⟩ rfl (fun w hw => R_elAddr (i := ((path).length - 1)) Try.underlying45 Try.sizeOf24 rfl rfl (h.ext hw.1).1 (by (try simp only [List.length_take, List.length_drop, List.length_append, List.length_cons, List.length_nil, List.length_replicate, List.length_set, Nm.b_len, be2_len]); omega)) ?_
      refine H_take (i := 10) rfl (by kernel_rfl) (by kernel_rfl) (by kernel_rfl) rfl (pq_then (pq_then pq_body)) ⟨hE, hB1_0, trivial⟩ rfl (fun w hw => R_ldL (C := cN) (i := ((path).length - 1)) (y := ((path).getD (((path).length - 1)) Nm.zero)) Try.isAgg24 Try.sizeOf24 rfl (h.ext hw.1) (getD_some (d := Nm.zero) (by (try simp only [List.length_take, List.length_drop, List.length_append, List.length_cons, List.length_nil, List.length_replicate, List.length_set, Nm.b_len, be2_len]); omega))) ?_
      refine H_op (i := 6) (by kernel_rfl) rfl rfl (D_call (R_callF Try.call182 rfl rfl) (ih (leaf) (i) ((split (n))) (cutV v (Cd.sz cN) (0) (((path).length - 1))) ((((path).drop (0)).take (((path).length - 1) - 0))) _ (by omega) (by omega) (by omega) (by simp only [List.length_take, List.length_drop]; omega) (((h.ext hE).cut (by (try simp only [List.length_take, List.length_drop, List.length_append, List.length_cons, List.length_nil, List.length_replicate, List.length_set, Nm.b_len, be2_len]); omega) (by (try simp only [List.length_take, List.length_drop, List.length_append, List.length_cons, List.length_nil, List.length_replicate, List.length_set, Nm.b_len, be2_len]); omega)).lev fun _ _ _ => trivial)) (fun w5_6 e5_6 => ?_))
      replace hE := hE.trans e5_6
      replace hB1_0 := hB1_0.ext e5_6
      replace hB1_1 := hB1_1.ext e5_6
      refine ⟨⟨hE, hB1_0, trivial⟩, ?_⟩
      refine H_op (i := 11) (by kernel_rfl) rfl rfl (D_call (R_callF Try.call162 rfl rfl) (c162 (18) ((cmp F leaf (i) ((split (n))) ((((path).drop (0)).take (((path).length - 1) - 0))))) (((path).getD (((path).length - 1)) Nm.zero)) _) (fun w5_11 e5_11 => ?_))
      replace hE := hE.trans e5_11
      replace hB1_0 := hB1_0.ext e5_11
      replace hB1_1 := hB1_1.ext e5_11
      refine ⟨⟨hE, hB1_0, trivial⟩, ?_⟩
      have h0 := hB1_1
      refine H_op (i := 12) (by kernel_rfl) rfl rfl (D_storeA Try.sizeOf24 hB1_1 rfl rfl rfl rfl rfl (l' := ((pairH 18 (cmp F leaf (i) ((split (n))) ((((path).drop (0)).take (((path).length - 1) - 0)))) ((path).getD (((path).length - 1)) Nm.zero))).l) rfl (fun w5_12 k5_12 hB1_1 => ?_))
      replace hE := hE.kp k5_12 lB1_1
      replace hB1_0 := hB1_0.kp k5_12 nB1_0B1_1
      refine ⟨⟨hE, hB1_0, trivial⟩, ?_⟩
      refine H_done (by kernel_rfl) ?_
      refine T_tn ?_
      refine wp_ret ?_
      refine T_tr ?_
      refine retc (c := ((pairH 18 (cmp F leaf (i) ((split (n))) ((((path).drop (0)).take (((path).length - 1) - 0)))) ((path).getD (((path).length - 1)) Nm.zero))).l) rfl rfl Try.isAgg24 Try.sizeOf24 hB1_1 rfl rfl ⟨?_, hE⟩
      rw [cmp_lo hn1 lk]; simp only [List.drop_zero, Nat.sub_zero]; rfl
    ·
      have lk : ¬ i < split n := by simp at c2; omega
      rw [dep_hi (by omega) lk] at hp hpb
      refine wp_skip ?_
      refine T_tn ?_
      refine wp_seq ?_
      refine W_held (fun W => Ext w W ∧ Blk W aB1_0 (leaf).l 24 ∧ True) mixed (fun w5_99 e5_99 => ?_)
      replace hE := hE.trans e5_99
      replace hB1_0 := hB1_0.ext e5_99
      replace hB1_1 := hB1_1.ext e5_99
      refine H_take (i := 0) rfl (by kernel_rfl) (by kernel_rfl) (by kernel_rfl) rfl (pq_then pq_body) ⟨hE, hB1_0, trivial⟩ rfl (fun w hw => R_move rfl) ?_
      refine H_take (i := 1) rfl (by kernel_rfl) (by kernel_rfl) (by kernel_rfl) rfl (pq_then pq_body) ⟨hE, hB1_0, trivial⟩ rfl (fun w hw => R_move rfl) ?_
      refine H_take (i := 2) rfl (by kernel_rfl) (by kernel_rfl) (by kernel_rfl) rfl (pq_then pq_body) ⟨hE, hB1_0, trivial⟩ rfl (fun w hw => R_elAddr (i := ((path).length - 1)) Try.underlying45 Try.sizeOf24 rfl rfl (h.ext hw.1).1 (by (try simp only [List.length_take, List.length_drop, List.length_append, List.length_cons, List.length_nil, List.length_replicate, List.length_set, Nm.b_len, be2_len]); omega)) ?_
      refine H_take (i := 3) rfl (by kernel_rfl) (by kernel_rfl) (by kernel_rfl) rfl (pq_then pq_body) ⟨hE, hB1_0, trivial⟩ rfl (fun w hw => R_ldL (C := cN) (i := ((path).length - 1)) (y := ((path).getD (((path).length - 1)) Nm.zero)) Try.isAgg24 Try.sizeOf24 rfl (h.ext hw.1) (getD_some (d := Nm.zero) (by (try simp only [List.length_take, List.length_drop, List.length_append, List.length_cons, List.length_nil, List.length_replicate, List.length_set, Nm.b_len, be2_len]); omega))) ?_
      refine H_take (i := 4) rfl (by kernel_rfl) (by kernel_rfl) (by kernel_rfl) rfl (pq_then pq_body) ⟨hE, hB1_0, trivial⟩ rfl (fun w hw => R_loadA (c := (leaf).l) Try.isAgg24 Try.sizeOf24 hw.2.1 rfl rfl rfl) ?_
      refine H_take (i := 5) rfl (by kernel_rfl) (by kernel_rfl) (by kernel_rfl) rfl (pq_then pq_body) ⟨hE, hB1_0, trivial⟩ rfl (fun w hw => R_move rfl) ?_
      refine H_take (i := 6) rfl (by kernel_rfl) (by kernel_rfl) (by kernel_rfl) rfl (pq_then pq_body) ⟨hE, hB1_0, trivial⟩ rfl (fun w hw => R_move rfl) ?_
      refine H_take (i := 7) rfl (by kernel_rfl) (by kernel_rfl) (by kernel_rfl) rfl (pq_then pq_body) ⟨hE, hB1_0, trivial⟩ rfl (fun w hw => R_subN (m := i) (j := (split (n))) rfl rfl (by (try simp only [List.length_take, List.length_drop, List.length_append, List.length_cons, List.length_nil, List.length_replicate, List.length_set, Nm.b_len, be2_len]); omega) (by (try simp only [List.length_take, List.length_drop, List.length_append, List.length_cons, List.length_nil, List.length_replicate, List.length_set, Nm.b_len, be2_len]); omega)) ?_
      refine H_take (i := 8) rfl (by kernel_rfl) (by kernel_rfl) (by kernel_rfl) rfl (pq_then pq_body) ⟨hE, hB1_0, trivial⟩ rfl (fun w hw => R_move rfl) ?_
      refine H_take (i := 9) rfl (by kernel_rfl) (by kernel_rfl) (by kernel_rfl) rfl (pq_then pq_body) ⟨hE, hB1_0, trivial⟩ rfl (fun w hw => R_move rfl) ?_
      refine H_take (i := 10) rfl (by kernel_rfl) (by kernel_rfl) (by kernel_rfl) rfl (pq_then pq_body) ⟨hE, hB1_0, trivial⟩ rfl (fun w hw => R_subN (m := n) (j := (split (n))) rfl rfl (by (try simp only [List.length_take, List.length_drop, List.length_append, List.length_cons, List.length_nil, List.length_replicate, List.length_set, Nm.b_len, be2_len]); omega) (by (try simp only [List.length_take, List.length_drop, List.length_append, List.length_cons, List.length_nil, List.length_replicate, List.length_set, Nm.b_len, be2_len]); omega)) ?_
      refine H_take (i := 11) rfl (by kernel_rfl) (by kernel_rfl) (by kernel_rfl) rfl (pq_then pq_body) ⟨hE, hB1_0, trivial⟩ rfl (fun w hw => R_move rfl) ?_
      refine H_take (i := 12) rfl (by kernel_rfl) (by kernel_rfl) (by kernel_rfl) rfl (pq_then pq_body) ⟨hE, hB1_0, trivial⟩ rfl (fun w hw => R_move rfl) ?_
      refine H_take (i := 13) rfl (by kernel_rfl) (by kernel_rfl) (by kernel_rfl) rfl (pq_then pq_body) ⟨hE, hB1_0, trivial⟩ rfl (fun w hw => R_sliceHi (j := ((path).length - 1)) Try.underlying45 Try.sizeOf24 rfl rfl (h.ext hw.1).1 (by (try simp only [List.length_take, List.length_drop, List.length_append, List.length_cons, List.length_nil, List.length_replicate, List.length_set, Nm.b_len, be2_len]); omega)) ?_
      refine H_op (i := 14) (by kernel_rfl) rfl rfl (D_call (R_callF Try.call182 rfl rfl) (ih (leaf) ((i - (split (n)))) ((n - (split (n)))) (cutV v (Cd.sz cN) (0) (((path).length - 1))) ((((path).drop (0)).take (((path).length - 1) - 0))) _ (by omega) (by omega) (by omega) (by simp only [List.length_take, List.length_drop]; omega) (((h.ext hE).cut (by (try simp only [List.length_take, List.length_drop, List.length_append, List.length_cons, List.length_nil, List.length_replicate, List.length_set, Nm.b_len, be2_len]); omega) (by (try simp only [List.length_take, List.length_drop, List.length_append, List.length_cons, List.length_nil, List.length_replicate, List.length_set, Nm.b_len, be2_len]); omega)).lev fun _ _ _ => trivial)) (fun w5_14 e5_14 => ?_))
      replace hE := hE.trans e5_14
      replace hB1_0 := hB1_0.ext e5_14
      replace hB1_1 := hB1_1.ext e5_14
      refine ⟨⟨hE, hB1_0, trivial⟩, ?_⟩
      refine H_op (i := 15) (by kernel_rfl) rfl rfl (D_call (R_callF Try.call162 rfl rfl) (c162 (18) (((path).getD (((path).length - 1)) Nm.zero)) ((cmp F leaf ((i - (split (n)))) ((n - (split (n)))) ((((path).drop (0)).take (((path).length - 1) - 0))))) _) (fun w5_15 e5_15 => ?_))
      replace hE := hE.trans e5_15
      replace hB1_0 := hB1_0.ext e5_15
      replace hB1_1 := hB1_1.ext e5_15
      refine ⟨⟨hE, hB1_0, trivial⟩, ?_⟩
      have h0 := hB1_1
      refine H_op (i := 16) (by kernel_rfl) rfl rfl (D_storeA Try.sizeOf24 hB1_1 rfl rfl rfl rfl rfl (l' := ((pairH 18 ((path).getD (((path).length - 1)) Nm.zero) (cmp F leaf ((i - (split (n)))) ((n - (split (n)))) ((((path).drop (0)).take (((path).length - 1) - 0)))))).l) rfl (fun w5_16 k5_16 hB1_1 => ?_))
      replace hE := hE.kp k5_16 lB1_1
      replace hB1_0 := hB1_0.kp k5_16 nB1_0B1_1
      refine ⟨⟨hE, hB1_0, trivial⟩, ?_⟩
      refine H_done (by kernel_rfl) ?_
      refine T_tn ?_
      refine wp_ret ?_
      refine retc (c := ((pairH 18 ((path).getD (((path).length - 1)) Nm.zero) (cmp F leaf ((i - (split (n)))) ((n - (split (n)))) ((((path).drop (0)).take (((path).length - 1) - 0)))))).l) rfl rfl Try.isAgg24 Try.sizeOf24 hB1_1 rfl rfl ⟨?_, hE⟩
      rw [cmp_hi hn1 lk]; simp only [List.drop_zero, Nat.sub_zero]; rfl

theorem c182 (F : Nat) : ∀ (leaf : Nm) (i n : Nat) (v : Value) (path : List Nm) (w : World), n ≤ F → i < n → n ≤ 1000000 → path.length = dep F i n → Ls cN w.heap.size w v path → Calls Try.prog 182 [leaf.v, i64 ((i : Nat) : Int), i64 ((n : Nat) : Int), v].toArray w (Ret w (cmp F leaf i n path).v) := by
  induction F with
  | zero => intro leaf i n v path w h1 h2; omega
  | succ F ih => exact fun leaf i n v path w h1 h2 h3 h4 h5 => c182s F ih leaf i n v path w h1 h2 h3 h4 h5

-- forkledger/forkledgerref1.follow
set_option maxRecDepth 4000 in
set_option maxHeartbeats 2000000 in
theorem c185s (F : Nat) (ih : ∀ (leaf : Nm) (i n : Nat) (v : Value) (path : List Nm) (w : World), n ≤ F → i < n → n ≤ 1000000 → path.length = dep F i n → Ls cN w.heap.size w v path → Calls Try.prog 185 [leaf.v, i64 ((i : Nat) : Int), i64 ((n : Nat) : Int), v].toArray w (Ret w (cmp F leaf i n path).v)) (leaf : Nm) (i n : Nat) (v : Value) (path : List Nm) (w : World) (hn : n ≤ F + 1) (hi : i < n) (hb : n ≤ 1000000) (hp : path.length = dep (F + 1) i n) (h : Ls cN w.heap.size w v path) : Calls Try.prog 185 [leaf.v, i64 ((i : Nat) : Int), i64 ((n : Nat) : Int), v].toArray w (Ret w (cmp (F + 1) leaf i n path).v) := by
  refine enter Try.func185 Try.ntmps185 rfl rfl ?_
  have hE := Ext.refl w
  have hpb := dep_le_n (F + 1) i n
  refine wp_seq ?_
  refine W_region ?_
  refine L (D_box (c := (leaf).l) (rfl) (fun aB1_0 w1_0 e1_0 gB1_0 hB1_0 => ?_))
  have lB1_0 := Nat.le_trans hE.size gB1_0
  replace hE := hE.trans e1_0
  refine L (D_alloc (c := (Nm.zero).l) Try.zeroValue24 rfl (fun aB1_1 w1_1 e1_1 gB1_1 hB1_1 => ?_))
  have lB1_1 := Nat.le_trans hE.size gB1_1
  have nB1_0B1_1 := hB1_0.ne gB1_1
  replace hE := hE.trans e1_1
  replace hB1_0 := hB1_0.ext e1_1
  refine S_nil ?_
  refine T_tn ?_
  refine wp_seq ?_
  refine wp_seq ?_
  refine W_region ?_
  refine L (D_v (R_move rfl) ?_)
  refine L (D_v (R_eqlI rfl rfl) ?_)
  refine S_nil ?_
  refine T_tn ?_
  refine W_if rfl (fun c1 => ?_) (fun c1 => ?_)
  ·
    obtain rfl : n = 1 := by simp at c1; omega
    refine wp_seq ?_
    refine W_region ?_
    refine L (D_v (R_sliceArr (len := 7) Try.underlying24 Try.sizeOf5 rfl) ?_)
    refine L (D_call (R_callF Try.call88 rfl rfl) (c88 (17) (.slice (some ⟨aB1_0, 0, none⟩) 8 8) ((leaf).b) _ (hB1_0.bs 0 (leaf).b rfl rfl rfl) (by (try simp only [List.length_take, List.length_drop, List.length_append, List.length_cons, List.length_nil, List.length_replicate, List.length_set, Nm.b_len, be2_len]); omega)) (fun w3_1 e3_1 => ?_))
    replace hE := hE.trans e3_1
    replace hB1_0 := hB1_0.ext e3_1
    replace hB1_1 := hB1_1.ext e3_1
    have h0 := hB1_1
    refine L (D_storeA Try.sizeOf24 hB1_1 rfl rfl rfl rfl rfl (l' := ((hashB (17 :: (leaf).b))).l) rfl (fun w3_2 k3_2 hB1_1 => ?_))
    replace hE := hE.kp k3_2 lB1_1
    replace hB1_0 := hB1_0.kp k3_2 nB1_0B1_1
    refine S_nil ?_
    refine T_tn ?_
    refine wp_ret ?_
    refine T_tr ?_
    refine retc (c := ((hashB (17 :: (leaf).b))).l) rfl rfl Try.isAgg24 Try.sizeOf24 hB1_1 rfl rfl ⟨?_, hE⟩
    rw [cmp_one]; rfl
  ·
    have hn1 : n ≠ 1 := by intro e; subst e; simp at c1
    have hsb := split_bound (n := n) (by omega)
    have hpos : 1 ≤ path.length := by rw [hp]; exact (Nat.lt_or_ge i (split n)).elim (fun hj => by rw [dep_lo (by omega) hj]; omega) (fun hj => by rw [dep_hi (by omega) (by omega)]; omega)
    refine wp_skip ?_
    refine T_tn ?_
    refine wp_seq ?_
    refine W_cut (R := fun g W => ∃ (aB3_8 : Nat), (g 1 = i64 ((i : Nat) : Int)) ∧ (g 2 = i64 ((n : Nat) : Int)) ∧ (g 3 = v) ∧ (g 4 = .pointer (some ⟨aB1_0, 0, none⟩)) ∧ (g 8 = .pointer (some ⟨aB1_1, 0, none⟩)) ∧ (g 9 = i64 (((split (n)) : Nat) : Int)) ∧ (g 10 = .pointer (some ⟨aB3_8, 0, none⟩)) ∧ Ext w W ∧ Blk W aB1_0 (leaf).l 24 ∧ Blk W aB1_1 (Nm.zero).l 24 ∧ Blk W aB3_8 (((path).getD (((path).length - 1)) Nm.zero)).l 24 ∧ w.heap.size ≤ aB3_8 ∧ aB1_0 ≠ aB3_8 ∧ aB1_1 ≠ aB3_8) ?_ ?_
    ·
      refine W_held (fun W => Ext w W ∧ Blk W aB1_0 (leaf).l 24 ∧ Blk W aB1_1 (Nm.zero).l 24 ∧ True) mixed (fun w3_99 e3_99 => ?_)
      replace hE := hE.trans e3_99
      replace hB1_0 := hB1_0.ext e3_99
      replace hB1_1 := hB1_1.ext e3_99
      refine H_take (i := 0) rfl (by kernel_rfl) (by kernel_rfl) (by kernel_rfl) rfl pq_cut ⟨hE, hB1_0, hB1_1, trivial⟩ rfl (fun w hw => R_move rfl) ?_
      refine H_take (i := 2) rfl (by kernel_rfl) (by kernel_rfl) (by kernel_rfl) rfl pq_cut ⟨hE, hB1_0, hB1_1, trivial⟩ rfl (fun w hw => R_move rfl) ?_
      refine H_take (i := 3) rfl (by kernel_rfl) (by kernel_rfl) (by kernel_rfl) rfl pq_cut ⟨hE, hB1_0, hB1_1, trivial⟩ rfl (fun w hw => R_move rfl) ?_
      refine H_take (i := 4) rfl (by kernel_rfl) (by kernel_rfl) (by kernel_rfl) rfl pq_cut ⟨hE, hB1_0, hB1_1, trivial⟩ rfl (fun w hw => R_len Try.underlying45 rfl (h.ext hw.1).1) ?_
      refine H_take (i := 5) rfl (by kernel_rfl) (by kernel_rfl) (by kernel_rfl) rfl pq_cut ⟨hE, hB1_0, hB1_1, trivial⟩ rfl (fun w hw => R_subN (m := (path).length) (j := 1) rfl rfl (by (try simp only [List.length_take, List.length_drop, List.length_append, List.length_cons, List.length_nil, List.length_replicate, List.length_set, Nm.b_len, be2_len]); omega) (by (try simp only [List.length_take, List.length_drop, List.length_append, List.length_cons, List.length_nil, List.length_replicate, List.length_set, Nm.b_len, be2_len]); omega)) ?_
      refine H_take (i := 6) rfl (by kernel_rfl) (by kernel_rfl) (by kernel_rfl) rfl pq_cut ⟨hE, hB1_0, hB1_1, trivial⟩ rfl (fun w hw => R_elAddr (i := ((path).length - 1)) Try.underlying45 Try.sizeOf24 rfl rfl (h.ext hw.1).1 (by (try simp only [List.length_take, List.length_drop, List.length_append, List.length_cons, List.length_nil, List.length_replicate, List.length_set, Nm.b_len, be2_len]); omega)) ?_
      refine H_take (i := 7) rfl (by kernel_rfl) (by kernel_rfl) (by kernel_rfl) rfl pq_cut ⟨hE, hB1_0, hB1_1, trivial⟩ rfl (fun w hw => R_ldL (C := cN) (i := ((path).length - 1)) (y := ((path).getD (((path).length - 1)) Nm.zero)) Try.isAgg24 Try.sizeOf24 rfl (h.ext hw.1) (getD_some (d := Nm.zero) (by (try simp only [List.length_take, List.length_drop, List.length_append, List.length_cons, List.length_nil, List.length_replicate, List.length_set, Nm.b_len, be2_len]); omega))) ?_
      refine H_op2 (i := 1) (i2 := 8) (by kernel_rfl) rfl rfl rfl rfl ?_ ?_
      ·
        refine D_call (R_callF Try.call141 rfl rfl) (c141 (n) _ (by omega) (by omega)) (fun w3_1 e3_1 => ?_)
        replace hE := hE.trans e3_1
        replace hB1_0 := hB1_0.ext e3_1
        replace hB1_1 := hB1_1.ext e3_1
        refine ⟨⟨hE, hB1_0, hB1_1, trivial⟩, ?_⟩
        refine H_op (i := 8) (by kernel_rfl) rfl rfl (D_alloc (c := (Nm.zero).l) Try.zeroValue24 rfl (fun aB3_8 w3_8 e3_8 gB3_8 hB3_8 => ?_))
        have lB3_8 := Nat.le_trans hE.size gB3_8
        have nB1_0B3_8 := hB1_0.ne gB3_8
        have nB1_1B3_8 := hB1_1.ne gB3_8
        replace hE := hE.trans e3_8
        replace hB1_0 := hB1_0.ext e3_8
        replace hB1_1 := hB1_1.ext e3_8
        refine ⟨⟨hE, hB1_0, hB1_1, trivial⟩, ?_⟩
        refine H_take (i := 9) rfl (by kernel_rfl) (by kernel_rfl) (by kernel_rfl) rfl pq_cut ⟨hE, hB1_0, hB1_1, trivial⟩ rfl (fun w hw => R_assign rfl) ?_
        have h0 := hB3_8
        refine H_op (i := 10) (by kernel_rfl) rfl rfl (D_storeA Try.sizeOf24 hB3_8 rfl rfl rfl rfl rfl (l' := (((path).getD (((path).length - 1)) Nm.zero)).l) rfl (fun w3_10 k3_10 hB3_8 => ?_))
        replace hE := hE.kp k3_10 lB3_8
        replace hB1_0 := hB1_0.kp k3_10 nB1_0B3_8
        replace hB1_1 := hB1_1.kp k3_10 nB1_1B3_8
        refine ⟨⟨hE, hB1_0, hB1_1, trivial⟩, ?_⟩
        refine H_done (by kernel_rfl) ?_
        exact ⟨rfl, _, rfl, _, rfl, rfl, rfl, rfl, rfl, rfl, rfl, hE, hB1_0, hB1_1, hB3_8, lB3_8, nB1_0B3_8, nB1_1B3_8⟩
      ·
        refine D_alloc (c := (Nm.zero).l) Try.zeroValue24 rfl (fun aB3_8 w3_8 e3_8 gB3_8 hB3_8 => ?_)
        have lB3_8 := Nat.le_trans hE.size gB3_8
        have nB1_0B3_8 := hB1_0.ne gB3_8
        have nB1_1B3_8 := hB1_1.ne gB3_8
        replace hE := hE.trans e3_8
        replace hB1_0 := hB1_0.ext e3_8
        replace hB1_1 := hB1_1.ext e3_8
        refine ⟨⟨hE, hB1_0, hB1_1, trivial⟩, ?_⟩
        refine H_op (i := 1) (by kernel_rfl) rfl rfl (D_call (R_callF Try.call141 rfl rfl) (c141 (n) _ (by omega) (by omega)) (fun w3_1 e3_1 => ?_))
        replace hE := hE.trans e3_1
        replace hB1_0 := hB1_0.ext e3_1
        replace hB1_1 := hB1_1.ext e3_1
        replace hB3_8 := hB3_8.ext e3_1
        refine ⟨⟨hE, hB1_0, hB1_1, trivial⟩, ?_⟩
        refine H_take (i := 9) rfl (by kernel_rfl) (by kernel_rfl) (by kernel_rfl) rfl pq_cut ⟨hE, hB1_0, hB1_1, trivial⟩ rfl (fun w hw => R_assign rfl) ?_
        have h0 := hB3_8
        refine H_op (i := 10) (by kernel_rfl) rfl rfl (D_storeA Try.sizeOf24 hB3_8 rfl rfl rfl rfl rfl (l' := (((path).getD (((path).length - 1)) Nm.zero)).l) rfl (fun w3_10 k3_10 hB3_8 => ?_))
        replace hE := hE.kp k3_10 lB3_8
        replace hB1_0 := hB1_0.kp k3_10 nB1_0B3_8
        replace hB1_1 := hB1_1.kp k3_10 nB1_1B3_8
        refine ⟨⟨hE, hB1_0, hB1_1, trivial⟩, ?_⟩
        refine H_done (by kernel_rfl) ?_
        exact ⟨rfl, _, rfl, _, rfl, rfl, rfl, rfl, rfl, rfl, rfl, hE, hB1_0, hB1_1, hB3_8, lB3_8, nB1_0B3_8, nB1_1B3_8⟩
    rintro f3 w3c ⟨aB3_8, q1, q2, q3, q4, q8, q9, q10, hE, hB1_0, hB1_1, hB3_8, lB3_8, nB1_0B3_8, nB1_1B3_8⟩
    refine T_tn ?_
    refine wp_seq ?_
    refine wp_seq ?_
    refine W_region ?_
    refine L (D_v (R_move q1) ?_)
    refine L (D_v (R_move q9) ?_)
    refine L (D_v (R_lssI rfl rfl) ?_)
    refine S_nil ?_
    refine T_tn ?_
    refine W_if rfl (fun c2 => ?_) (fun c2 => ?_)
    ·
      have lk : i < split n := by simp at c2; omega
      rw [dep_lo (by omega) lk] at hp hpb
      refine wp_seq ?_
      refine W_held (fun W => Ext w W ∧ Blk W aB1_0 (leaf).l 24 ∧ Blk W aB3_8 (((path).getD (((path).length - 1)) Nm.zero)).l 24 ∧ True) mixed (fun w5_99 e5_99 => ?_)
      replace hE := hE.trans e5_99
      replace hB1_0 := hB1_0.ext e5_99
      replace hB1_1 := hB1_1.ext e5_99
      replace hB3_8 := hB3_8.ext e5_99
      refine H_take (i := 0) rfl (by kernel_rfl) (by kernel_rfl) (by kernel_rfl) rfl (pq_then (pq_then pq_body)) ⟨hE, hB1_0, hB3_8, trivial⟩ rfl (fun w hw => R_loadA (c := (leaf).l) Try.isAgg24 Try.sizeOf24 hw.2.1 q4 rfl rfl) ?_
      refine H_take (i := 1) rfl (by kernel_rfl) (by kernel_rfl) (by kernel_rfl) rfl (pq_then (pq_then pq_body)) ⟨hE, hB1_0, hB3_8, trivial⟩ rfl (fun w hw => R_move q1) ?_
      refine H_take (i := 2) rfl (by kernel_rfl) (by kernel_rfl) (by kernel_rfl) rfl (pq_then (pq_then pq_body)) ⟨hE, hB1_0, hB3_8, trivial⟩ rfl (fun w hw => R_move q9) ?_
      refine H_take (i := 3) rfl (by kernel_rfl) (by kernel_rfl) (by kernel_rfl) rfl (pq_then (pq_then pq_body)) ⟨hE, hB1_0, hB3_8, trivial⟩ rfl (fun w hw => R_move q3) ?_
      refine H_take (i := 4) rfl (by kernel_rfl) (by kernel_rfl) (by kernel_rfl) rfl (pq_then (pq_then pq_body)) ⟨hE, hB1_0, hB3_8, trivial⟩ rfl (fun w hw => R_move q3) ?_
      refine H_take (i := 5) rfl (by kernel_rfl) (by kernel_rfl) (by kernel_rfl) rfl (pq_then (pq_then pq_body)) ⟨hE, hB1_0, hB3_8, trivial⟩ rfl (fun w hw => R_len Try.underlying45 rfl (h.ext hw.1).1) ?_
      refine H_take (i := 6) rfl (by kernel_rfl) (by kernel_rfl) (by kernel_rfl) rfl (pq_then (pq_then pq_body)) ⟨hE, hB1_0, hB3_8, trivial⟩ rfl (fun w hw => R_subN (m := (path).length) (j := 1) rfl rfl (by (try simp only [List.length_take, List.length_drop, List.length_append, List.length_cons, List.length_nil, List.length_replicate, List.length_set, Nm.b_len, be2_len]); omega) (by (try simp only [List.length_take, List.length_drop, List.length_append, List.length_cons, List.length_nil, List.length_replicate, List.length_set, Nm.b_len, be2_len]); omega)) ?_
      refine H_take (i := 7) rfl (by kernel_rfl) (by kernel_rfl) (by kernel_rfl) rfl (pq_then (pq_then pq_body)) ⟨hE, hB1_0, hB3_8, trivial⟩ rfl (fun w hw => R_sliceHi (j := ((path).length - 1)) Try.underlying45 Try.sizeOf24 rfl rfl (h.ext hw.1).1 (by (try simp only [List.length_take, List.length_drop, List.length_append, List.length_cons, List.length_nil, List.length_replicate, List.length_set, Nm.b_len, be2_len]); omega)) ?_
      refine H_take (i := 9) rfl (by kernel_rfl) (by kernel_rfl) (by kernel_rfl) rfl (pq_then (pq_then pq_body)) ⟨hE, hB1_0, hB3_8, trivial⟩ rfl (fun w hw => R_loadA (c := (((path).getD (((path).length - 1)) Nm.zero)).l) Try.isAgg24 Try.sizeOf24 hw.2.2.1 q10 rfl rfl) ?_
      refine H_op (i := 8) (by kernel_rfl) rfl rfl (D_call (R_callF Try.call185 rfl rfl) (ih (leaf) (i) ((split (n))) (cutV v (Cd.sz cN) (0) (((path).length - 1))) ((((path).drop (0)).take (((path).length - 1) - 0))) _ (by omega) (by omega) (by omega) (by simp only [List.length_take, List.length_drop]; omega) (((h.ext hE).cut (by (try simp only [List.length_take, List.length_drop, List.length_append, List.length_cons, List.length_nil, List.length_replicate, List.length_set, Nm.b_len, be2_len]); omega) (by (try simp only [List.length_take, List.length_drop, List.length_append, List.length_cons, List.length_nil, List.length_replicate, List.length_set, Nm.b_len, be2_len]); omega)).lev fun _ _ _ => trivial)) (fun w5_8 e5_8 => ?_))
      replace hE := hE.trans e5_8
      replace hB1_0 := hB1_0.ext e5_8
      replace hB1_1 := hB1_1.ext e5_8
      replace hB3_8 := hB3_8.ext e5_8
      refine ⟨⟨hE, hB1_0, hB3_8, trivial⟩, ?_⟩
      refine H_op (i := 10) (by kernel_rfl) rfl rfl (D_call (R_callF Try.call173 rfl rfl) (c173 (18) ((cmp F leaf (i) ((split (n))) ((((path).drop (0)).take (((path).length - 1) - 0))))) (((path).getD (((path).length - 1)) Nm.zero)) _) (fun w5_10 e5_10 => ?_))
      replace hE := hE.trans e5_10
      replace hB1_0 := hB1_0.ext e5_10
      replace hB1_1 := hB1_1.ext e5_10
      replace hB3_8 := hB3_8.ext e5_10
      refine ⟨⟨hE, hB1_0, hB3_8, trivial⟩, ?_⟩
      have h0 := hB1_1
      refine H_op (i := 11) (by kernel_rfl) rfl rfl (D_storeA Try.sizeOf24 hB1_1 q8 rfl rfl rfl rfl (l' := ((pairH 18 (cmp F leaf (i) ((split (n))) ((((path).drop (0)).take (((path).length - 1) - 0)))) ((path).getD (((path).length - 1)) Nm.zero))).l) rfl (fun w5_11 k5_11 hB1_1 => ?_))
      replace hE := hE.kp k5_11 lB1_1
      replace hB1_0 := hB1_0.kp k5_11 nB1_0B1_1
      replace hB3_8 := hB3_8.kp k5_11 nB1_1B3_8.symm
      refine ⟨⟨hE, hB1_0, hB3_8, trivial⟩, ?_⟩
      refine H_done (by kernel_rfl) ?_
      refine T_tn ?_
      refine wp_ret ?_
      refine T_tr ?_
      refine retc (c := ((pairH 18 (cmp F leaf (i) ((split (n))) ((((path).drop (0)).take (((path).length - 1) - 0)))) ((path).getD (((path).length - 1)) Nm.zero))).l) rfl q8 Try.isAgg24 Try.sizeOf24 hB1_1 rfl rfl ⟨?_, hE⟩
      rw [cmp_lo hn1 lk]; simp only [List.drop_zero, Nat.sub_zero]; rfl
    ·
      have lk : ¬ i < split n := by simp at c2; omega
      rw [dep_hi (by omega) lk] at hp hpb
      refine wp_skip ?_
      refine T_tn ?_
      refine wp_seq ?_
      refine W_held (fun W => Ext w W ∧ Blk W aB1_0 (leaf).l 24 ∧ Blk W aB3_8 (((path).getD (((path).length - 1)) Nm.zero)).l 24 ∧ True) mixed (fun w5_99 e5_99 => ?_)
      replace hE := hE.trans e5_99
      replace hB1_0 := hB1_0.ext e5_99
      replace hB1_1 := hB1_1.ext e5_99
      replace hB3_8 := hB3_8.ext e5_99
      refine H_take (i := 0) rfl (by kernel_rfl) (by kernel_rfl) (by kernel_rfl) rfl (pq_then pq_body) ⟨hE, hB1_0, hB3_8, trivial⟩ rfl (fun w hw => R_loadA (c := (((path).getD (((path).length - 1)) Nm.zero)).l) Try.isAgg24 Try.sizeOf24 hw.2.2.1 q10 rfl rfl) ?_
      refine H_take (i := 1) rfl (by kernel_rfl) (by kernel_rfl) (by kernel_rfl) rfl (pq_then pq_body) ⟨hE, hB1_0, hB3_8, trivial⟩ rfl (fun w hw => R_loadA (c := (leaf).l) Try.isAgg24 Try.sizeOf24 hw.2.1 q4 rfl rfl) ?_
      refine H_take (i := 2) rfl (by kernel_rfl) (by kernel_rfl) (by kernel_rfl) rfl (pq_then pq_body) ⟨hE, hB1_0, hB3_8, trivial⟩ rfl (fun w hw => R_move q1) ?_
      refine H_take (i := 3) rfl (by kernel_rfl) (by kernel_rfl) (by kernel_rfl) rfl (pq_then pq_body) ⟨hE, hB1_0, hB3_8, trivial⟩ rfl (fun w hw => R_move q9) ?_
      refine H_take (i := 4) rfl (by kernel_rfl) (by kernel_rfl) (by kernel_rfl) rfl (pq_then pq_body) ⟨hE, hB1_0, hB3_8, trivial⟩ rfl (fun w hw => R_subN (m := i) (j := (split (n))) rfl rfl (by (try simp only [List.length_take, List.length_drop, List.length_append, List.length_cons, List.length_nil, List.length_replicate, List.length_set, Nm.b_len, be2_len]); omega) (by (try simp only [List.length_take, List.length_drop, List.length_append, List.length_cons, List.length_nil, List.length_replicate, List.length_set, Nm.b_len, be2_len]); omega)) ?_
      refine H_take (i := 5) rfl (by kernel_rfl) (by kernel_rfl) (by kernel_rfl) rfl (pq_then pq_body) ⟨hE, hB1_0, hB3_8, trivial⟩ rfl (fun w hw => R_move q2) ?_
      refine H_take (i := 6) rfl (by kernel_rfl) (by kernel_rfl) (by kernel_rfl) rfl (pq_then pq_body) ⟨hE, hB1_0, hB3_8, trivial⟩ rfl (fun w hw => R_move q9) ?_
      refine H_take (i := 7) rfl (by kernel_rfl) (by kernel_rfl) (by kernel_rfl) rfl (pq_then pq_body) ⟨hE, hB1_0, hB3_8, trivial⟩ rfl (fun w hw => R_subN (m := n) (j := (split (n))) rfl rfl (by (try simp only [List.length_take, List.length_drop, List.length_append, List.length_cons, List.length_nil, List.length_replicate, List.length_set, Nm.b_len, be2_len]); omega) (by (try simp only [List.length_take, List.length_drop, List.length_append, List.length_cons, List.length_nil, List.length_replicate, List.length_set, Nm.b_len, be2_len]); omega)) ?_
      refine H_take (i := 8) rfl (by kernel_rfl) (by kernel_rfl) (by kernel_rfl) rfl (pq_then pq_body) ⟨hE, hB1_0, hB3_8, trivial⟩ rfl (fun w hw => R_move q3) ?_
      refine H_take (i := 9) rfl (by kernel_rfl) (by kernel_rfl) (by kernel_rfl) rfl (pq_then pq_body) ⟨hE, hB1_0, hB3_8, trivial⟩ rfl (fun w hw => R_move q3) ?_
      refine H_take (i := 10) rfl (by kernel_rfl) (by kernel_rfl) (by kernel_rfl) rfl (pq_then pq_body) ⟨hE, hB1_0, hB3_8, trivial⟩ rfl (fun w hw => R_len Try.underlying45 rfl (h.ext hw.1).1) ?_
      refine H_take (i := 11) rfl (by kernel_rfl) (by kernel_rfl) (by kernel_rfl) rfl (pq_then pq_body) ⟨hE, hB1_0, hB3_8, trivial⟩ rfl (fun w hw => R_subN (m := (path).length) (j := 1) rfl rfl (by (try simp only [List.length_take, List.length_drop, List.length_append, List.length_cons, List.length_nil, List.length_replicate, List.length_set, Nm.b_len, be2_len]); omega) (by (try simp only [List.length_take, List.length_drop, List.length_append, List.length_cons, List.length_nil, List.length_replicate, List.length_set, Nm.b_len, be2_len]); omega)) ?_
      refine H_take (i := 12) rfl (by kernel_rfl) (by kernel_rfl) (by kernel_rfl) rfl (pq_then pq_body) ⟨hE, hB1_0, hB3_8, trivial⟩ rfl (fun w hw => R_sliceHi (j := ((path).length - 1)) Try.underlying45 Try.sizeOf24 rfl rfl (h.ext hw.1).1 (by (try simp only [List.length_take, List.length_drop, List.length_append, List.length_cons, List.length_nil, List.length_replicate, List.length_set, Nm.b_len, be2_len]); omega)) ?_
      refine H_op (i := 13) (by kernel_rfl) rfl rfl (D_call (R_callF Try.call185 rfl rfl) (ih (leaf) ((i - (split (n)))) ((n - (split (n)))) (cutV v (Cd.sz cN) (0) (((path).length - 1))) ((((path).drop (0)).take (((path).length - 1) - 0))) _ (by omega) (by omega) (by omega) (by simp only [List.length_take, List.length_drop]; omega) (((h.ext hE).cut (by (try simp only [List.length_take, List.length_drop, List.length_append, List.length_cons, List.length_nil, List.length_replicate, List.length_set, Nm.b_len, be2_len]); omega) (by (try simp only [List.length_take, List.length_drop, List.length_append, List.length_cons, List.length_nil, List.length_replicate, List.length_set, Nm.b_len, be2_len]); omega)).lev fun _ _ _ => trivial)) (fun w5_13 e5_13 => ?_))
      replace hE := hE.trans e5_13
      replace hB1_0 := hB1_0.ext e5_13
      replace hB1_1 := hB1_1.ext e5_13
      replace hB3_8 := hB3_8.ext e5_13
      refine ⟨⟨hE, hB1_0, hB3_8, trivial⟩, ?_⟩
      refine H_op (i := 14) (by kernel_rfl) rfl rfl (D_call (R_callF Try.call173 rfl rfl) (c173 (18) (((path).getD (((path).length - 1)) Nm.zero)) ((cmp F leaf ((i - (split (n)))) ((n - (split (n)))) ((((path).drop (0)).take (((path).length - 1) - 0))))) _) (fun w5_14 e5_14 => ?_))
      replace hE := hE.trans e5_14
      replace hB1_0 := hB1_0.ext e5_14
      replace hB1_1 := hB1_1.ext e5_14
      replace hB3_8 := hB3_8.ext e5_14
      refine ⟨⟨hE, hB1_0, hB3_8, trivial⟩, ?_⟩
      have h0 := hB1_1
      refine H_op (i := 15) (by kernel_rfl) rfl rfl (D_storeA Try.sizeOf24 hB1_1 q8 rfl rfl rfl rfl (l' := ((pairH 18 ((path).getD (((path).length - 1)) Nm.zero) (cmp F leaf ((i - (split (n)))) ((n - (split (n)))) ((((path).drop (0)).take (((path).length - 1) - 0)))))).l) rfl (fun w5_15 k5_15 hB1_1 => ?_))
      replace hE := hE.kp k5_15 lB1_1
      replace hB1_0 := hB1_0.kp k5_15 nB1_0B1_1
      replace hB3_8 := hB3_8.kp k5_15 nB1_1B3_8.symm
      refine ⟨⟨hE, hB1_0, hB3_8, trivial⟩, ?_⟩
      refine H_done (by kernel_rfl) ?_
      refine T_tn ?_
      refine wp_ret ?_
      refine retc (c := ((pairH 18 ((path).getD (((path).length - 1)) Nm.zero) (cmp F leaf ((i - (split (n)))) ((n - (split (n)))) ((((path).drop (0)).take (((path).length - 1) - 0)))))).l) rfl q8 Try.isAgg24 Try.sizeOf24 hB1_1 rfl rfl ⟨?_, hE⟩
      rw [cmp_hi hn1 lk]; simp only [List.drop_zero, Nat.sub_zero]; rfl

theorem c185 (F : Nat) : ∀ (leaf : Nm) (i n : Nat) (v : Value) (path : List Nm) (w : World), n ≤ F → i < n → n ≤ 1000000 → path.length = dep F i n → Ls cN w.heap.size w v path → Calls Try.prog 185 [leaf.v, i64 ((i : Nat) : Int), i64 ((n : Nat) : Int), v].toArray w (Ret w (cmp F leaf i n path).v) := by
  induction F with
  | zero => intro leaf i n v path w h1 h2; omega
  | succ F ih => exact fun leaf i n v path w h1 h2 h3 h4 h5 => c185s F ih leaf i n v path w h1 h2 h3 h4 h5

-- forkledger/merkle.Follow
set_option maxRecDepth 4000 in
set_option maxHeartbeats 2000000 in
theorem c166s (leaf : Nm) (i n : Nat) (v : Value) (path : List Nm) (D : Int) (w : World) (hD : D = ((dep n i n : Nat) : Int)) (hi : i < n) (hb : n ≤ 1000000) (hp : path.length = dep n i n) (h : Ls cN w.heap.size w v path) : Calls Try.prog 166 [leaf.v, i64 ((i : Nat) : Int), i64 ((n : Nat) : Int), v].toArray w (Ret w (.tuple #[(cmp n leaf i n path).v, .bool true])) := by
  refine enter Try.func166 Try.ntmps166 rfl rfl ?_
  have hE := Ext.refl w
  have hpb := dep_le_n n i n
  refine wp_seq ?_
  refine W_region ?_
  refine L (D_box (c := (leaf).l) (rfl) (fun aB1_0 w1_0 e1_0 gB1_0 hB1_0 => ?_))
  have lB1_0 := Nat.le_trans hE.size gB1_0
  replace hE := hE.trans e1_0
  refine L (D_alloc (c := (Nm.zero).l) Try.zeroValue24 rfl (fun aB1_1 w1_1 e1_1 gB1_1 hB1_1 => ?_))
  have lB1_1 := Nat.le_trans hE.size gB1_1
  have nB1_0B1_1 := hB1_0.ne gB1_1
  replace hE := hE.trans e1_1
  replace hB1_0 := hB1_0.ext e1_1
  refine L (D_v (R_assign rfl) ?_)
  refine S_nil ?_
  refine T_tn ?_
  refine wp_seq ?_
  refine wp_seq ?_
  refine W_region ?_
  refine L (D_v (R_move rfl) ?_)
  refine L (D_v (R_move rfl) ?_)
  refine L (D_call (R_callF Try.call176 rfl rfl) ((show Calls Try.prog 176 [i64 ((i : Nat) : Int), i64 ((n : Nat) : Int)].toArray w1_1 (Ret w1_1 (i64 D)) from by rw [hD]; exact c176 i n _ _ rfl (by omega) (by omega))) (fun w2_2 e2_2 => ?_))
  replace hE := hE.trans e2_2
  replace hB1_0 := hB1_0.ext e2_2
  replace hB1_1 := hB1_1.ext e2_2
  refine L (D_v (R_assign rfl) ?_)
  refine S_nil ?_
  refine T_tn ?_
  refine wp_seq ?_
  refine W_region ?_
  refine L (D_v (R_move rfl) ?_)
  refine L (D_v (R_lssI rfl rfl) ?_)
  refine L (D_v (R_move rfl) ?_)
  refine L (D_g1 rfl rfl (fun hb => R_move rfl) ?_)
  refine L (D_g1 rfl rfl (fun hb => R_len Try.underlying45 (cgE hb) (h.ext hE).1) ?_)
  refine L (D_g1 rfl rfl (fun hb => R_move rfl) ?_)
  refine L (D_g1 rfl rfl (fun hb => R_neqI (cgE hb) (cgE hb)) ?_)
  refine L (D_v (R_pickO rfl rfl rfl) ?_)
  refine S_nil ?_
  refine T_tn ?_
  refine W_if rfl (fun c1 => ?_) (fun c1 => ?_)
  ·
    subst hD
    exfalso; revert c1; rw [hp]; simp; try omega
  ·
    subst hD
    refine wp_skip ?_
    refine T_tn ?_
    refine wp_seq ?_
    refine W_region ?_
    refine L (D_v (R_loadA (c := (leaf).l) Try.isAgg24 Try.sizeOf24 hB1_0 rfl rfl rfl) ?_)
    refine L (D_v (R_move rfl) ?_)
    refine L (D_v (R_move rfl) ?_)
    refine L (D_v (R_move rfl) ?_)
    refine L (D_call (R_callF Try.call182 rfl rfl) (c182 (n) (leaf) (i) (n) v (path) _ (by omega) (by omega) (by omega) (by assumption) ((h.ext hE).lev fun _ _ _ => trivial)) (fun w4_4 e4_4 => ?_))
    replace hE := hE.trans e4_4
    replace hB1_0 := hB1_0.ext e4_4
    replace hB1_1 := hB1_1.ext e4_4
    have h0 := hB1_1
    refine L (D_storeA Try.sizeOf24 hB1_1 rfl rfl rfl rfl rfl (l' := ((cmp (n) leaf (i) (n) (path))).l) rfl (fun w4_5 k4_5 hB1_1 => ?_))
    replace hE := hE.kp k4_5 lB1_1
    replace hB1_0 := hB1_0.kp k4_5 nB1_0B1_1
    refine L (D_v (R_assign rfl) ?_)
    refine S_nil ?_
    refine T_tn ?_
    refine wp_ret ?_
    refine retct (c := ((cmp (n) leaf (i) (n) (path))).l) (v2 := .bool true) rfl rfl rfl Try.isAgg24 Try.sizeOf24 hB1_1 rfl rfl ⟨?_, hE⟩
    rfl

-- forkledger/forkledgerref1.Follow
set_option maxRecDepth 4000 in
set_option maxHeartbeats 2000000 in
theorem c172s (leaf : Nm) (i n : Nat) (v : Value) (path : List Nm) (D : Int) (w : World) (hD : D = ((dep n i n : Nat) : Int)) (hi : i < n) (hb : n ≤ 1000000) (hp : path.length = dep n i n) (h : Ls cN w.heap.size w v path) : Calls Try.prog 172 [leaf.v, i64 ((i : Nat) : Int), i64 ((n : Nat) : Int), v].toArray w (Ret w (.tuple #[(cmp n leaf i n path).v, .bool true])) := by
  refine enter Try.func172 Try.ntmps172 rfl rfl ?_
  have hE := Ext.refl w
  have hpb := dep_le_n n i n
  refine wp_seq ?_
  refine W_region ?_
  refine L (D_box (c := (leaf).l) (rfl) (fun aB1_0 w1_0 e1_0 gB1_0 hB1_0 => ?_))
  have lB1_0 := Nat.le_trans hE.size gB1_0
  replace hE := hE.trans e1_0
  refine L (D_alloc (c := (Nm.zero).l) Try.zeroValue24 rfl (fun aB1_1 w1_1 e1_1 gB1_1 hB1_1 => ?_))
  have lB1_1 := Nat.le_trans hE.size gB1_1
  have nB1_0B1_1 := hB1_0.ne gB1_1
  replace hE := hE.trans e1_1
  replace hB1_0 := hB1_0.ext e1_1
  refine L (D_v (R_assign rfl) ?_)
  refine S_nil ?_
  refine T_tn ?_
  refine wp_seq ?_
  refine wp_seq ?_
  refine W_region ?_
  refine L (D_v (R_move rfl) ?_)
  refine L (D_v (R_move rfl) ?_)
  refine L (D_call (R_callF Try.call184 rfl rfl) ((show Calls Try.prog 184 [i64 ((i : Nat) : Int), i64 ((n : Nat) : Int)].toArray w1_1 (Ret w1_1 (i64 D)) from by rw [hD]; exact c184 i n _ _ rfl (by omega) (by omega))) (fun w2_2 e2_2 => ?_))
  replace hE := hE.trans e2_2
  replace hB1_0 := hB1_0.ext e2_2
  replace hB1_1 := hB1_1.ext e2_2
  refine L (D_v (R_assign rfl) ?_)
  refine S_nil ?_
  refine T_tn ?_
  refine wp_seq ?_
  refine W_region ?_
  refine L (D_v (R_move rfl) ?_)
  refine L (D_v (R_lssI rfl rfl) ?_)
  refine L (D_v (R_move rfl) ?_)
  refine L (D_g1 rfl rfl (fun hb => R_move rfl) ?_)
  refine L (D_g1 rfl rfl (fun hb => R_move rfl) ?_)
  refine L (D_g1 rfl rfl (fun hb => R_len Try.underlying45 (cgE hb) (h.ext hE).1) ?_)
  refine L (D_g1 rfl rfl (fun hb => R_neqI (cgE hb) (cgE hb)) ?_)
  refine L (D_v (R_pickO rfl rfl rfl) ?_)
  refine S_nil ?_
  refine T_tn ?_
  refine W_if rfl (fun c1 => ?_) (fun c1 => ?_)
  ·
    subst hD
    exfalso; revert c1; rw [hp]; simp; try omega
  ·
    subst hD
    refine wp_skip ?_
    refine T_tn ?_
    refine wp_seq ?_
    refine W_region ?_
    refine L (D_v (R_loadA (c := (leaf).l) Try.isAgg24 Try.sizeOf24 hB1_0 rfl rfl rfl) ?_)
    refine L (D_v (R_move rfl) ?_)
    refine L (D_v (R_move rfl) ?_)
    refine L (D_v (R_move rfl) ?_)
    refine L (D_call (R_callF Try.call185 rfl rfl) (c185 (n) (leaf) (i) (n) v (path) _ (by omega) (by omega) (by omega) (by assumption) ((h.ext hE).lev fun _ _ _ => trivial)) (fun w4_4 e4_4 => ?_))
    replace hE := hE.trans e4_4
    replace hB1_0 := hB1_0.ext e4_4
    replace hB1_1 := hB1_1.ext e4_4
    have h0 := hB1_1
    refine L (D_storeA Try.sizeOf24 hB1_1 rfl rfl rfl rfl rfl (l' := ((cmp (n) leaf (i) (n) (path))).l) rfl (fun w4_5 k4_5 hB1_1 => ?_))
    replace hE := hE.kp k4_5 lB1_1
    replace hB1_0 := hB1_0.kp k4_5 nB1_0B1_1
    refine L (D_v (R_assign rfl) ?_)
    refine S_nil ?_
    refine T_tn ?_
    refine wp_ret ?_
    refine retct (c := ((cmp (n) leaf (i) (n) (path))).l) (v2 := .bool true) rfl rfl rfl Try.isAgg24 Try.sizeOf24 hB1_1 rfl rfl ⟨?_, hE⟩
    rfl
end Go.Proofs.Yteeopgpgbdhmhaa
