/- Walks of the functions on bytes: the library's stable sort. No condition. Printed by wip/mkR.py. -/
import Derived.Test.YteeopgpgbdhmhaaSq
namespace Go.Proofs.Yteeopgpgbdhmhaa
open Go.RowKit
set_option linter.unusedVariables false
set_option linter.unusedSimpArgs false
attribute [local irreducible] wpList wpO H wpQuiet wpStill Code.wp Exit.then Exit.inBlock bodyPost Code.rounds Calls
-- sort.swapRange_func
set_option maxRecDepth 4000 in
set_option maxHeartbeats 2000000 in
theorem c186 {α : Type} {S : (Nat → α) → World → Prop} {gB n : Nat} {lf sf : Value} {lt : α → α → Bool} (hR : Srt Try.prog S gB n lf sf lt) (f : Nat → α) (a b k : Nat) (w : World) (hG : S f w) (hab : a + k ≤ b) (hb : b + k ≤ n) : Calls Try.prog 186 [.agg #[lf, sf], i64 ((a : Nat) : Int), i64 ((b : Nat) : Int), i64 ((k : Nat) : Int)].toArray w (RetS gB w fun w2 => S (sr f a b k) w2) := by
  refine enter Try.func186 Try.ntmps186 rfl rfl ?_
  have hE := Chg.refl gB w
  have hnb := hR.nb
  have hlp := hR.lp
  have hsp := hR.sp
  have hG : S (sr f a b 0) w := by rw [sr_zero]; exact hG
  refine wp_seq ?_
  refine W_region ?_
  refine L (D_box (c := [lf, sf]) (rfl) (fun aB1_0 w1_0 e1_0 gB1_0 hB1_0 => ?_))
  have lB1_0 := Nat.le_trans hE.size gB1_0
  have nGB1_0 := Nat.ne_of_lt (Nat.lt_of_lt_of_le (hR.bound _ _ hG) gB1_0)
  replace hE := hE.trans e1_0
  replace hG := hR.ext _ _ _ hG e1_0
  refine S_nil ?_
  refine T_tn ?_
  refine wp_seq ?_
  refine W_region ?_
  refine L (D_v (R_assign rfl) ?_)
  refine S_nil ?_
  refine T_tn ?_
  refine wp_block ?_
  refine W_loop (fun mz g W => ∃ (i : Nat), mz = k - i ∧ g 1 = i64 ((a : Nat) : Int) ∧ g 2 = i64 ((b : Nat) : Int) ∧ g 3 = i64 ((k : Nat) : Int) ∧ g 4 = .pointer (some ⟨aB1_0, 0, none⟩) ∧ g 8 = i64 ((i : Nat) : Int) ∧ Chg gB w W ∧ S (sr f a b i) W ∧ Blk W aB1_0 [lf, sf] 145 ∧ i ≤ k) ⟨0, rfl, rfl, rfl, rfl, rfl, rfl, hE, hG, hB1_0, (Nat.zero_le _)⟩ ?_
  rintro mz f3 w3l ⟨i, hm, q1, q2, q3, q4, q8, hE, hG, hB1_0, hi⟩
  refine wp_seq ?_
  refine wp_seq ?_
  refine W_region ?_
  refine L (D_v (R_move q8) ?_)
  refine L (D_v (R_move q3) ?_)
  refine L (D_v (R_lssI rfl rfl) ?_)
  refine S_nil ?_
  refine T_tn ?_
  refine W_if rfl (fun c1 => ?_) (fun c1 => ?_)
  ·
    have lk : (i < k) := by have e := of_decide_eq_true c1; omega
    refine wp_skip ?_
    refine T_tn ?_
    refine wp_seq ?_
    refine wp_block ?_
    refine W_region ?_
    refine L (D_v (R_fieldAddr Try.runUnderlying145 rfl Try.sizeOf141 q4) ?_)
    refine L (D_v (R_load Try.isAgg141 hB1_0 rfl rfl) ?_)
    refine L (D_v (R_move q1) ?_)
    refine L (D_v (R_move q8) ?_)
    refine L (D_v (R_addN (m := a) (j := i) rfl rfl (by (try simp only [List.length_take, List.length_drop, List.length_append, List.length_cons, List.length_nil, List.length_replicate, List.length_set, Nm.b_len, be2_len]); omega)) ?_)
    refine L (D_v (R_move q2) ?_)
    refine L (D_v (R_move q8) ?_)
    refine L (D_v (R_addN (m := b) (j := i) rfl rfl (by (try simp only [List.length_take, List.length_drop, List.length_append, List.length_cons, List.length_nil, List.length_replicate, List.length_set, Nm.b_len, be2_len]); omega)) ?_)
    refine L (D_callV rfl (mapv2 rfl rfl) (hR.swap _ _ ((a + i)) ((b + i)) hG (by (try simp only [List.length_take, List.length_drop, List.length_append, List.length_cons, List.length_nil, List.length_replicate, List.length_set, Nm.b_len, be2_len]); omega) (by (try simp only [List.length_take, List.length_drop, List.length_append, List.length_cons, List.length_nil, List.length_replicate, List.length_set, Nm.b_len, be2_len]); omega)) ?_)
    rintro _ w5_8 ⟨rfl, e5_8, hG⟩
    replace hE := hE.chg e5_8
    replace hB1_0 := hB1_0.chg e5_8 nGB1_0.symm
    rw [sr_step f (by omega)] at hG
    refine S_nil ?_
    refine T_bn ?_
    refine T_tn ?_
    refine W_region ?_
    refine L (D_v (R_move q8) ?_)
    refine L (D_v (R_addN (m := i) (j := 1) rfl rfl (by (try simp only [List.length_take, List.length_drop, List.length_append, List.length_cons, List.length_nil, List.length_replicate, List.length_set, Nm.b_len, be2_len]); omega)) ?_)
    refine L (D_v (R_assign rfl) ?_)
    refine S_nil ?_
    refine T_tn ?_
    refine ⟨_, _, ?_, rfl, i + 1, rfl, q1, q2, q3, q4, rfl, hE, hG, hB1_0, ?_⟩
    all_goals omega
  ·
    have lk : ¬ (i < k) := by have e := of_decide_eq_false c1; omega
    refine wp_exit ?_
    refine T_te ?_
    refine T_te ?_
    refine T_be ?_
    refine ret0n rfl ⟨rfl, hE, ?_⟩
    obtain rfl : i = k := by omega
    exact hG

-- sort.rotate_func
set_option maxRecDepth 4000 in
set_option maxHeartbeats 2000000 in
theorem c175 {α : Type} {S : (Nat → α) → World → Prop} {gB n : Nat} {lf sf : Value} {lt : α → α → Bool} (hR : Srt Try.prog S gB n lf sf lt) (f : Nat → α) (a m b : Nat) (w : World) (hG : S f w) (ham : a < m) (hmb : m < b) (hb : b ≤ n) : Calls Try.prog 175 [.agg #[lf, sf], i64 ((a : Nat) : Int), i64 ((m : Nat) : Int), i64 ((b : Nat) : Int)].toArray w (RetS gB w fun w2 => S (rt f a m b) w2) := by
  refine enter Try.func175 Try.ntmps175 rfl rfl ?_
  have hE := Chg.refl gB w
  have hnb := hR.nb
  have hlp := hR.lp
  have hsp := hR.sp
  refine wp_seq ?_
  refine W_region ?_
  refine L (D_box (c := [lf, sf]) (rfl) (fun aB1_0 w1_0 e1_0 gB1_0 hB1_0 => ?_))
  have lB1_0 := Nat.le_trans hE.size gB1_0
  have nGB1_0 := Nat.ne_of_lt (Nat.lt_of_lt_of_le (hR.bound _ _ hG) gB1_0)
  replace hE := hE.trans e1_0
  replace hG := hR.ext _ _ _ hG e1_0
  refine S_nil ?_
  refine T_tn ?_
  refine wp_seq ?_
  refine W_region ?_
  refine L (D_v (R_move rfl) ?_)
  refine L (D_v (R_move rfl) ?_)
  refine L (D_v (R_subN (m := m) (j := a) rfl rfl (by (try simp only [List.length_take, List.length_drop, List.length_append, List.length_cons, List.length_nil, List.length_replicate, List.length_set, Nm.b_len, be2_len]); omega) (by (try simp only [List.length_take, List.length_drop, List.length_append, List.length_cons, List.length_nil, List.length_replicate, List.length_set, Nm.b_len, be2_len]); omega)) ?_)
  refine L (D_v (R_assign rfl) ?_)
  refine S_nil ?_
  refine T_tn ?_
  refine wp_seq ?_
  refine W_region ?_
  refine L (D_v (R_move rfl) ?_)
  refine L (D_v (R_move rfl) ?_)
  refine L (D_v (R_subN (m := b) (j := m) rfl rfl (by (try simp only [List.length_take, List.length_drop, List.length_append, List.length_cons, List.length_nil, List.length_replicate, List.length_set, Nm.b_len, be2_len]); omega) (by (try simp only [List.length_take, List.length_drop, List.length_append, List.length_cons, List.length_nil, List.length_replicate, List.length_set, Nm.b_len, be2_len]); omega)) ?_)
  refine L (D_v (R_assign rfl) ?_)
  refine S_nil ?_
  refine T_tn ?_
  refine wp_seq ?_
  refine wp_block ?_
  refine W_loop (fun mz g W => ∃ (i : Nat) (j : Nat) (h : Nat → α), mz = i + j ∧ g 2 = i64 ((m : Nat) : Int) ∧ g 4 = .pointer (some ⟨aB1_0, 0, none⟩) ∧ g 8 = i64 ((i : Nat) : Int) ∧ g 9 = i64 ((j : Nat) : Int) ∧ Chg gB w W ∧ S (h) W ∧ Blk W aB1_0 [lf, sf] 145 ∧ 1 ≤ i ∧ 1 ≤ j ∧ a + i ≤ m ∧ m + j ≤ b ∧ Rot (rt f a m b) h m i j) ⟨m - a, b - m, f, rfl, rfl, rfl, rfl, rfl, hE, hG, hB1_0, (by omega), (by omega), (by omega), (by omega), (Rot.start f (by omega) (by omega))⟩ ?_
  rintro mz f4 w4l ⟨i, j, h, hm, q2, q4, q8, q9, hE, hG, hB1_0, hi, hj, him, hjb, hro⟩
  refine wp_seq ?_
  refine wp_seq ?_
  refine W_region ?_
  refine L (D_v (R_move q8) ?_)
  refine L (D_v (R_move q9) ?_)
  refine L (D_v (R_neqI rfl rfl) ?_)
  refine S_nil ?_
  refine T_tn ?_
  refine W_if rfl (fun c1 => ?_) (fun c1 => ?_)
  ·
    have ne : ¬ i = j := by intro e; subst e; simp at c1
    refine wp_skip ?_
    refine T_tn ?_
    refine wp_block ?_
    refine wp_seq ?_
    refine W_region ?_
    refine L (D_v (R_move q8) ?_)
    refine L (D_v (R_move q9) ?_)
    refine L (D_v (R_gtrI rfl rfl) ?_)
    refine S_nil ?_
    refine T_tn ?_
    refine W_if rfl (fun c2 => ?_) (fun c2 => ?_)
    ·
      have lk : (j < i) := by have e := of_decide_eq_true c2; omega
      refine wp_seq ?_
      refine W_region ?_
      refine L (D_v (R_loadA (c := [lf, sf]) Try.isAgg145 Try.sizeOf145 hB1_0 q4 rfl rfl) ?_)
      refine L (D_v (R_move q2) ?_)
      refine L (D_v (R_move q8) ?_)
      refine L (D_v (R_subN (m := m) (j := i) rfl rfl (by (try simp only [List.length_take, List.length_drop, List.length_append, List.length_cons, List.length_nil, List.length_replicate, List.length_set, Nm.b_len, be2_len]); omega) (by (try simp only [List.length_take, List.length_drop, List.length_append, List.length_cons, List.length_nil, List.length_replicate, List.length_set, Nm.b_len, be2_len]); omega)) ?_)
      refine L (D_v (R_move q2) ?_)
      refine L (D_v (R_move q9) ?_)
      refine L (D_callS (R_callF Try.call186 rfl rfl) (c186 hR (h) ((m - i)) (m) (j) _ hG (by omega) (by omega)) (fun w7_6 p7_6 => ?_))
      obtain ⟨e7_6, hG⟩ := p7_6
      replace hE := hE.chg e7_6
      replace hB1_0 := hB1_0.chg e7_6 nGB1_0.symm
      refine S_nil ?_
      refine T_tn ?_
      refine W_region ?_
      refine L (D_v (R_move q8) ?_)
      refine L (D_v (R_move q9) ?_)
      refine L (D_v (R_subN (m := i) (j := j) rfl rfl (by (try simp only [List.length_take, List.length_drop, List.length_append, List.length_cons, List.length_nil, List.length_replicate, List.length_set, Nm.b_len, be2_len]); omega) (by (try simp only [List.length_take, List.length_drop, List.length_append, List.length_cons, List.length_nil, List.length_replicate, List.length_set, Nm.b_len, be2_len]); omega)) ?_)
      refine L (D_v (R_assign rfl) ?_)
      refine S_nil ?_
      refine T_bn ?_
      refine T_tn ?_
      refine ⟨_, _, ?_, rfl, _, _, _, rfl, q2, q4, rfl, q9, hE, hG, hB1_0, ?_, ?_, ?_, ?_, ?_⟩
      all_goals first | omega | exact hro.gt (by omega) (by omega) | exact hro.lss (by omega) (by omega)
    ·
      have lk : ¬ (j < i) := by have e := of_decide_eq_false c2; omega
      refine wp_seq ?_
      refine W_region ?_
      refine L (D_v (R_loadA (c := [lf, sf]) Try.isAgg145 Try.sizeOf145 hB1_0 q4 rfl rfl) ?_)
      refine L (D_v (R_move q2) ?_)
      refine L (D_v (R_move q8) ?_)
      refine L (D_v (R_subN (m := m) (j := i) rfl rfl (by (try simp only [List.length_take, List.length_drop, List.length_append, List.length_cons, List.length_nil, List.length_replicate, List.length_set, Nm.b_len, be2_len]); omega) (by (try simp only [List.length_take, List.length_drop, List.length_append, List.length_cons, List.length_nil, List.length_replicate, List.length_set, Nm.b_len, be2_len]); omega)) ?_)
      refine L (D_v (R_move q2) ?_)
      refine L (D_v (R_move q9) ?_)
      refine L (D_v (R_addN (m := m) (j := j) rfl rfl (by (try simp only [List.length_take, List.length_drop, List.length_append, List.length_cons, List.length_nil, List.length_replicate, List.length_set, Nm.b_len, be2_len]); omega)) ?_)
      refine L (D_v (R_move q8) ?_)
      refine L (D_v (R_subN (m := (m + j)) (j := i) rfl rfl (by (try simp only [List.length_take, List.length_drop, List.length_append, List.length_cons, List.length_nil, List.length_replicate, List.length_set, Nm.b_len, be2_len]); omega) (by (try simp only [List.length_take, List.length_drop, List.length_append, List.length_cons, List.length_nil, List.length_replicate, List.length_set, Nm.b_len, be2_len]); omega)) ?_)
      refine L (D_v (R_move q8) ?_)
      refine L (D_callS (R_callF Try.call186 rfl rfl) (c186 hR (h) ((m - i)) (((m + j) - i)) (i) _ hG (by omega) (by omega)) (fun w7_10 p7_10 => ?_))
      obtain ⟨e7_10, hG⟩ := p7_10
      replace hE := hE.chg e7_10
      replace hB1_0 := hB1_0.chg e7_10 nGB1_0.symm
      refine S_nil ?_
      refine T_tn ?_
      refine W_region ?_
      refine L (D_v (R_move q9) ?_)
      refine L (D_v (R_move q8) ?_)
      refine L (D_v (R_subN (m := j) (j := i) rfl rfl (by (try simp only [List.length_take, List.length_drop, List.length_append, List.length_cons, List.length_nil, List.length_replicate, List.length_set, Nm.b_len, be2_len]); omega) (by (try simp only [List.length_take, List.length_drop, List.length_append, List.length_cons, List.length_nil, List.length_replicate, List.length_set, Nm.b_len, be2_len]); omega)) ?_)
      refine L (D_v (R_assign rfl) ?_)
      refine S_nil ?_
      refine T_bn ?_
      refine T_tn ?_
      refine ⟨_, _, ?_, rfl, _, _, _, rfl, q2, q4, q8, rfl, hE, hG, hB1_0, ?_, ?_, ?_, ?_, ?_⟩
      all_goals first | omega | exact hro.gt (by omega) (by omega) | exact hro.lss (by omega) (by omega)
  ·
    have ne : i = j := by simp at c1; omega
    refine wp_exit ?_
    refine T_te ?_
    refine T_te ?_
    refine T_be ?_
    refine T_tn ?_
    refine W_region ?_
    refine L (D_v (R_loadA (c := [lf, sf]) Try.isAgg145 Try.sizeOf145 hB1_0 q4 rfl rfl) ?_)
    refine L (D_v (R_move q2) ?_)
    refine L (D_v (R_move q8) ?_)
    refine L (D_v (R_subN (m := m) (j := i) rfl rfl (by (try simp only [List.length_take, List.length_drop, List.length_append, List.length_cons, List.length_nil, List.length_replicate, List.length_set, Nm.b_len, be2_len]); omega) (by (try simp only [List.length_take, List.length_drop, List.length_append, List.length_cons, List.length_nil, List.length_replicate, List.length_set, Nm.b_len, be2_len]); omega)) ?_)
    refine L (D_v (R_move q2) ?_)
    refine L (D_v (R_move q8) ?_)
    refine L (D_callS (R_callF Try.call186 rfl rfl) (c186 hR (h) ((m - i)) (m) (i) _ hG (by omega) (by omega)) (fun w6_6 p6_6 => ?_))
    obtain ⟨e6_6, hG⟩ := p6_6
    replace hE := hE.chg e6_6
    replace hB1_0 := hB1_0.chg e6_6 nGB1_0.symm
    refine S_nil ?_
    refine ret0n rfl ⟨rfl, hE, ?_⟩
    subst ne
    rw [hro.last (by omega)] at hG
    exact hG

-- sort.insertionSort_func
set_option maxRecDepth 4000 in
set_option maxHeartbeats 2000000 in
theorem c155 {α : Type} {S : (Nat → α) → World → Prop} {gB n : Nat} {lf sf : Value} {lt : α → α → Bool} (hR : Srt Try.prog S gB n lf sf lt) (f : Nat → α) (a b : Nat) (w : World) (hG : S f w) (hab : a ≤ b) (hb : b ≤ n) : Calls Try.prog 155 [.agg #[lf, sf], i64 ((a : Nat) : Int), i64 ((b : Nat) : Int)].toArray w (RetS gB w fun w2 => ∃ f', S f' w2 ∧ Mv f f' a b ∧ srt lt f' a b) := by
  refine enter Try.func155 Try.ntmps155 rfl rfl ?_
  have hE := Chg.refl gB w
  have hnb := hR.nb
  have hlp := hR.lp
  have hsp := hR.sp
  refine wp_seq ?_
  refine W_region ?_
  refine L (D_box (c := [lf, sf]) (rfl) (fun aB1_0 w1_0 e1_0 gB1_0 hB1_0 => ?_))
  have lB1_0 := Nat.le_trans hE.size gB1_0
  have nGB1_0 := Nat.ne_of_lt (Nat.lt_of_lt_of_le (hR.bound _ _ hG) gB1_0)
  replace hE := hE.trans e1_0
  replace hG := hR.ext _ _ _ hG e1_0
  refine S_nil ?_
  refine T_tn ?_
  refine wp_seq ?_
  refine W_region ?_
  refine L (D_v (R_move rfl) ?_)
  refine L (D_v (R_addN (m := a) (j := 1) rfl rfl (by (try simp only [List.length_take, List.length_drop, List.length_append, List.length_cons, List.length_nil, List.length_replicate, List.length_set, Nm.b_len, be2_len]); omega)) ?_)
  refine L (D_v (R_assign rfl) ?_)
  refine S_nil ?_
  refine T_tn ?_
  refine wp_block ?_
  refine W_loop (fun mz g W => ∃ (i : Nat) (h : Nat → α), mz = b - i ∧ g 1 = i64 ((a : Nat) : Int) ∧ g 2 = i64 ((b : Nat) : Int) ∧ g 3 = .pointer (some ⟨aB1_0, 0, none⟩) ∧ g 6 = i64 ((i : Nat) : Int) ∧ Chg gB w W ∧ S (h) W ∧ Blk W aB1_0 [lf, sf] 145 ∧ a + 1 ≤ i ∧ ((i ≤ b ∨ i = a + 1)) ∧ Mv f h a b ∧ srt lt h a i) ⟨a + 1, f, rfl, rfl, rfl, rfl, rfl, hE, hG, hB1_0, (Nat.le_refl _), (.inr rfl), (Mv.refl _ _ _), (srt_small _ (Nat.le_refl _))⟩ ?_
  rintro mz f3 w3l ⟨i, h, hm, q1, q2, q3, q6, hE, hG, hB1_0, hai, hib, hmv, hso⟩
  refine wp_seq ?_
  refine wp_seq ?_
  refine W_region ?_
  refine L (D_v (R_move q6) ?_)
  refine L (D_v (R_move q2) ?_)
  refine L (D_v (R_lssI rfl rfl) ?_)
  refine S_nil ?_
  refine T_tn ?_
  refine W_if rfl (fun c1 => ?_) (fun c1 => ?_)
  ·
    have lk : i < b := by have e := of_decide_eq_true c1; omega
    refine wp_skip ?_
    refine T_tn ?_
    refine wp_seq ?_
    refine wp_block ?_
    refine wp_seq ?_
    refine W_region ?_
    refine L (D_v (R_move q6) ?_)
    refine L (D_v (R_assign rfl) ?_)
    refine S_nil ?_
    refine T_tn ?_
    refine wp_block ?_
    refine W_loop (fun mz g W => ∃ (j : Nat) (h2 : Nat → α), mz = j + 0 ∧ g 1 = i64 ((a : Nat) : Int) ∧ g 2 = i64 ((b : Nat) : Int) ∧ g 3 = .pointer (some ⟨aB1_0, 0, none⟩) ∧ g 6 = i64 ((i : Nat) : Int) ∧ g 7 = i64 ((j : Nat) : Int) ∧ Chg gB w W ∧ S (h2) W ∧ Blk W aB1_0 [lf, sf] 145 ∧ a ≤ j ∧ j ≤ i ∧ Mv f h2 a b ∧ ins lt h2 a j i) ⟨i, h, rfl, q1, q2, q3, q6, rfl, hE, hG, hB1_0, (by omega), (Nat.le_refl _), hmv, (ins_start hso)⟩ ?_
    rintro mz f6 w6l ⟨j, h2, hm, q1, q2, q3, q6, q7, hE, hG, hB1_0, haj, hji, hm2, hin⟩
    refine wp_seq ?_
    refine wp_seq ?_
    refine W_region ?_
    refine L (D_v (R_move q7) ?_)
    refine L (D_v (R_move q1) ?_)
    refine L (D_v (R_gtrI rfl rfl) ?_)
    refine L (D_v (R_move rfl) ?_)
    refine L (D_g1 rfl rfl (fun hb => R_fieldAddr Try.runUnderlying145 rfl Try.sizeOf103 q3) ?_)
    refine L (D_g1 rfl rfl (fun hb => R_load Try.isAgg103 hB1_0 (cgE hb) rfl) ?_)
    refine L (D_g1 rfl rfl (fun hb => R_move q7) ?_)
    refine L (D_g1 rfl rfl (fun hb => R_move q7) ?_)
    refine L (D_g1 rfl rfl (fun hb => R_subN (m := j) (j := 1) (cgE hb) rfl (by have e := of_decide_eq_true hb; omega) (by omega)) ?_)
    refine L (D_gVB rfl rfl (fun hb => (cgE hb)) (fun hb => (mapv2 (cgE hb) (cgE hb))) (fun hb => hR.less _ _ (j) ((j - 1)) hG (by first | omega | (have e := of_decide_eq_true hb; omega)) (by first | omega | (have e := of_decide_eq_true hb; omega))) (fun w7_9 e7_9 => ?_))
    replace hE := hE.trans e7_9
    replace hG := hR.ext _ _ _ hG e7_9
    replace hB1_0 := hB1_0.ext e7_9
    refine L (D_v (R_pickA rfl rfl rfl) ?_)
    refine S_nil ?_
    refine T_tn ?_
    refine W_if rfl (fun c2 => ?_) (fun c2 => ?_)
    ·
      have lj : a < j ∧ lt (h2 j) (h2 (j - 1)) = true := by have e := c2; simp only [Bool.and_eq_true, decide_eq_true_eq] at e; exact ⟨by omega, e.2⟩
      refine wp_skip ?_
      refine T_tn ?_
      refine wp_seq ?_
      refine wp_block ?_
      refine W_region ?_
      refine L (D_v (R_fieldAddr Try.runUnderlying145 rfl Try.sizeOf141 q3) ?_)
      refine L (D_v (R_load Try.isAgg141 hB1_0 rfl rfl) ?_)
      refine L (D_v (R_move q7) ?_)
      refine L (D_v (R_move q7) ?_)
      refine L (D_v (R_subN (m := j) (j := 1) rfl rfl (by (try simp only [List.length_take, List.length_drop, List.length_append, List.length_cons, List.length_nil, List.length_replicate, List.length_set, Nm.b_len, be2_len]); omega) (by (try simp only [List.length_take, List.length_drop, List.length_append, List.length_cons, List.length_nil, List.length_replicate, List.length_set, Nm.b_len, be2_len]); omega)) ?_)
      refine L (D_callV rfl (mapv2 rfl rfl) (hR.swap _ _ (j) ((j - 1)) hG (by first | omega | (have e := of_decide_eq_true hb; omega)) (by first | omega | (have e := of_decide_eq_true hb; omega))) ?_)
      rintro _ w8_5 ⟨rfl, e8_5, hG⟩
      replace hE := hE.chg e8_5
      replace hB1_0 := hB1_0.chg e8_5 nGB1_0.symm
      refine S_nil ?_
      refine T_bn ?_
      refine T_tn ?_
      refine W_region ?_
      refine L (D_v (R_move q7) ?_)
      refine L (D_v (R_subN (m := j) (j := 1) rfl rfl (by (try simp only [List.length_take, List.length_drop, List.length_append, List.length_cons, List.length_nil, List.length_replicate, List.length_set, Nm.b_len, be2_len]); omega) (by (try simp only [List.length_take, List.length_drop, List.length_append, List.length_cons, List.length_nil, List.length_replicate, List.length_set, Nm.b_len, be2_len]); omega)) ?_)
      refine L (D_v (R_assign rfl) ?_)
      refine S_nil ?_
      refine T_tn ?_
      refine ⟨_, _, ?_, rfl, j - 1, _, rfl, q1, q2, q3, q6, rfl, hE, hG, hB1_0, ?_, ?_, ?_, ?_⟩
      all_goals first | omega | exact hm2.trans (Mv.swp _ (by omega) (by omega)) | exact ins_step hR.ord hin (by omega) lj.2
    ·
      have lj : j = a ∨ lt (h2 j) (h2 (j - 1)) = false := by by_cases e1 : j = a; exact .inl e1; have e := c2; rw [Bool.and_eq_false_iff] at e; exact .inr (e.resolve_left (by simp; omega))
      have hso2 := ins_end hR.ord hin (by omega) lj
      have hmv2 := hm2
      refine wp_exit ?_
      refine T_te ?_
      refine T_te ?_
      refine T_be ?_
      refine T_bn ?_
      refine T_tn ?_
      refine W_region ?_
      refine L (D_v (R_move q6) ?_)
      refine L (D_v (R_addN (m := i) (j := 1) rfl rfl (by (try simp only [List.length_take, List.length_drop, List.length_append, List.length_cons, List.length_nil, List.length_replicate, List.length_set, Nm.b_len, be2_len]); omega)) ?_)
      refine L (D_v (R_assign rfl) ?_)
      refine S_nil ?_
      refine T_tn ?_
      refine ⟨_, _, ?_, rfl, i + 1, _, rfl, q1, q2, q3, rfl, hE, hG, hB1_0, ?_, ?_, ?_, ?_⟩
      all_goals first | omega | exact .inl (by omega) | exact hmv2 | exact hso2
  ·
    have lk : ¬ i < b := by have e := of_decide_eq_false c1; omega
    refine wp_exit ?_
    refine T_te ?_
    refine T_te ?_
    refine T_be ?_
    refine ret0n rfl ⟨rfl, hE, ?_⟩
    exact ⟨_, hG, hmv, srt_mono hso (Nat.le_refl _) (by omega)⟩

-- sort.symMerge_func
set_option maxRecDepth 4000 in
set_option maxHeartbeats 8000000 in
theorem c156s {α : Type} {S : (Nat → α) → World → Prop} {gB n : Nat} {lf sf : Value} {lt : α → α → Bool} (hR : Srt Try.prog S gB n lf sf lt) (f : Nat → α) (N : Nat) (ih : ∀ (f : Nat → α) (a m b : Nat) (w : World), b - a ≤ N → S f w → a < m → m < b → b ≤ n → srt lt f a m → srt lt f m b → Calls Try.prog 156 [.agg #[lf, sf], i64 ((a : Nat) : Int), i64 ((m : Nat) : Int), i64 ((b : Nat) : Int)].toArray w (RetS gB w fun w2 => ∃ f', S f' w2 ∧ Mv f f' a b ∧ srt lt f' a b)) (a m b : Nat) (w : World) (hG : S f w) (hN : b - a ≤ N + 1) (ham : a < m) (hmb : m < b) (hbn : b ≤ n) (hs1 : srt lt f a m) (hs2 : srt lt f m b) : Calls Try.prog 156 [.agg #[lf, sf], i64 ((a : Nat) : Int), i64 ((m : Nat) : Int), i64 ((b : Nat) : Int)].toArray w (RetS gB w fun w2 => ∃ f', S f' w2 ∧ Mv f f' a b ∧ srt lt f' a b) := by
  refine enter Try.func156 Try.ntmps156 rfl rfl ?_
  have hE := Chg.refl gB w
  have hnb := hR.nb
  have hlp := hR.lp
  have hsp := hR.sp
  refine wp_seq ?_
  refine W_region ?_
  refine L (D_box (c := [lf, sf]) (rfl) (fun aB1_0 w1_0 e1_0 gB1_0 hB1_0 => ?_))
  have lB1_0 := Nat.le_trans hE.size gB1_0
  have nGB1_0 := Nat.ne_of_lt (Nat.lt_of_lt_of_le (hR.bound _ _ hG) gB1_0)
  replace hE := hE.trans e1_0
  replace hG := hR.ext _ _ _ hG e1_0
  refine S_nil ?_
  refine T_tn ?_
  refine wp_seq ?_
  refine wp_seq ?_
  refine W_region ?_
  refine L (D_v (R_move rfl) ?_)
  refine L (D_v (R_move rfl) ?_)
  refine L (D_v (R_subN (m := m) (j := a) rfl rfl (by (try simp only [List.length_take, List.length_drop, List.length_append, List.length_cons, List.length_nil, List.length_replicate, List.length_set, Nm.b_len, be2_len]); omega) (by (try simp only [List.length_take, List.length_drop, List.length_append, List.length_cons, List.length_nil, List.length_replicate, List.length_set, Nm.b_len, be2_len]); omega)) ?_)
  refine L (D_v (R_eqlI rfl rfl) ?_)
  refine S_nil ?_
  refine T_tn ?_
  refine W_if rfl (fun c1 => ?_) (fun c1 => ?_)
  ·
    have h1 : m - a = 1 := by simp at c1; omega
    refine wp_seq ?_
    refine W_region ?_
    refine L (D_v (R_move rfl) ?_)
    refine L (D_v (R_assign rfl) ?_)
    refine S_nil ?_
    refine T_tn ?_
    refine wp_seq ?_
    refine W_region ?_
    refine L (D_v (R_move rfl) ?_)
    refine L (D_v (R_assign rfl) ?_)
    refine S_nil ?_
    refine T_tn ?_
    refine wp_seq ?_
    refine wp_block ?_
    refine W_loop (fun mz g W => ∃ (i : Nat) (j : Nat), mz = j - i ∧ g 1 = i64 ((a : Nat) : Int) ∧ g 4 = .pointer (some ⟨aB1_0, 0, none⟩) ∧ g 8 = i64 ((i : Nat) : Int) ∧ g 9 = i64 ((j : Nat) : Int) ∧ Chg gB w W ∧ S (f) W ∧ Blk W aB1_0 [lf, sf] 145 ∧ m ≤ i ∧ i ≤ j ∧ j ≤ b ∧ (∀ c : Nat, m ≤ c → c < i → lt (f c) (f a) = true) ∧ (∀ c : Nat, j ≤ c → c < b → lt (f c) (f a) = false)) ⟨m, b, rfl, rfl, rfl, rfl, rfl, hE, hG, hB1_0, (Nat.le_refl _), (by omega), (Nat.le_refl _), (fun c c1 c2 => by omega), (fun c c1 c2 => by omega)⟩ ?_
    rintro mz f5 w5l ⟨i, j, hm, q1, q4, q8, q9, hE, hG, hB1_0, hmi, hij, hjb, hlo, hhi⟩
    refine wp_seq ?_
    refine wp_seq ?_
    refine W_region ?_
    refine L (D_v (R_move q8) ?_)
    refine L (D_v (R_move q9) ?_)
    refine L (D_v (R_lssI rfl rfl) ?_)
    refine S_nil ?_
    refine T_tn ?_
    refine W_if rfl (fun c2 => ?_) (fun c2 => ?_)
    ·
      have li : i < j := by have e := of_decide_eq_true c2; omega
      refine wp_skip ?_
      refine T_tn ?_
      refine wp_block ?_
      refine wp_seq ?_
      refine W_region ?_
      refine L (D_v (R_move q8) ?_)
      refine L (D_v (R_move q9) ?_)
      refine L (D_v (R_addN (m := i) (j := j) rfl rfl (by (try simp only [List.length_take, List.length_drop, List.length_append, List.length_cons, List.length_nil, List.length_replicate, List.length_set, Nm.b_len, be2_len]); omega)) ?_)
      refine L (D_v (R_cvU (m := (i + j)) Try.runUnderlying3 Try.runUnderlying83 rfl (by (try simp only [List.length_take, List.length_drop, List.length_append, List.length_cons, List.length_nil, List.length_replicate, List.length_set, Nm.b_len, be2_len]); omega)) ?_)
      refine L (D_v (R_shrU (m := (i + j)) rfl rfl) ?_)
      refine L (D_v (R_cvI (m := ((i + j) / 2)) Try.runUnderlying83 Try.runUnderlying3 rfl (by (try simp only [List.length_take, List.length_drop, List.length_append, List.length_cons, List.length_nil, List.length_replicate, List.length_set, Nm.b_len, be2_len]); omega)) ?_)
      refine L (D_v (R_assign rfl) ?_)
      refine S_nil ?_
      refine T_tn ?_
      refine wp_seq ?_
      refine W_region ?_
      refine L (D_v (R_fieldAddr Try.runUnderlying145 rfl Try.sizeOf103 q4) ?_)
      refine L (D_v (R_load Try.isAgg103 hB1_0 rfl rfl) ?_)
      refine L (D_v (R_move rfl) ?_)
      refine L (D_v (R_move q1) ?_)
      refine L (D_callV rfl (mapv2 rfl rfl) (hR.less _ _ (((i + j) / 2)) (a) hG (by (try simp only [List.length_take, List.length_drop, List.length_append, List.length_cons, List.length_nil, List.length_replicate, List.length_set, Nm.b_len, be2_len]); omega) (by (try simp only [List.length_take, List.length_drop, List.length_append, List.length_cons, List.length_nil, List.length_replicate, List.length_set, Nm.b_len, be2_len]); omega)) ?_)
      rintro _ w8_4 ⟨rfl, e8_4⟩
      replace hE := hE.trans e8_4
      replace hG := hR.ext _ _ _ hG e8_4
      replace hB1_0 := hB1_0.ext e8_4
      refine S_nil ?_
      refine T_tn ?_
      refine W_if rfl (fun c3 => ?_) (fun c3 => ?_)
      ·
        have hl : lt (f ((i + j) / 2)) (f a) = true := c3
        refine W_region ?_
        refine L (D_v (R_move rfl) ?_)
        refine L (D_v (R_addN (m := ((i + j) / 2)) (j := 1) rfl rfl (by (try simp only [List.length_take, List.length_drop, List.length_append, List.length_cons, List.length_nil, List.length_replicate, List.length_set, Nm.b_len, be2_len]); omega)) ?_)
        refine L (D_v (R_assign rfl) ?_)
        refine S_nil ?_
        refine T_bn ?_
        refine T_tn ?_
        refine ⟨_, _, ?_, rfl, _, _, rfl, q1, q4, rfl, q9, hE, hG, hB1_0, ?_, ?_, ?_, ?_, ?_⟩
        all_goals first | omega | exact hlo | exact hhi | exact fun c c1 c2 => bs_lo hR.ord hs2 hl ⟨c1, by omega⟩ (by omega) | exact fun c c1 c2 => bs_hi hR.ord hs2 hl ⟨c1, c2⟩ (by omega)
      ·
        have hl : lt (f ((i + j) / 2)) (f a) = false := c3
        refine W_region ?_
        refine L (D_v (R_move rfl) ?_)
        refine L (D_v (R_assign rfl) ?_)
        refine S_nil ?_
        refine T_bn ?_
        refine T_tn ?_
        refine ⟨_, _, ?_, rfl, _, _, rfl, q1, q4, q8, rfl, hE, hG, hB1_0, ?_, ?_, ?_, ?_, ?_⟩
        all_goals first | omega | exact hlo | exact hhi | exact fun c c1 c2 => bs_lo hR.ord hs2 hl ⟨c1, by omega⟩ (by omega) | exact fun c c1 c2 => bs_hi hR.ord hs2 hl ⟨c1, c2⟩ (by omega)
    ·
      have li : ¬ i < j := by have e := of_decide_eq_false c2; omega
      obtain rfl : i = j := by omega
      refine wp_exit ?_
      refine T_te ?_
      refine T_te ?_
      refine T_be ?_
      refine T_tn ?_
      refine wp_seq ?_
      refine wp_seq ?_
      refine W_region ?_
      refine L (D_v (R_move q1) ?_)
      refine L (D_v (R_assign rfl) ?_)
      refine S_nil ?_
      refine T_tn ?_
      refine wp_block ?_
      refine W_loop (fun mz g W => ∃ (k : Nat), mz = i - k ∧ g 4 = .pointer (some ⟨aB1_0, 0, none⟩) ∧ g 8 = i64 ((i : Nat) : Int) ∧ g 11 = i64 ((k : Nat) : Int) ∧ Chg gB w W ∧ S (up1 f a k) W ∧ Blk W aB1_0 [lf, sf] 145 ∧ a ≤ k ∧ k ≤ i - 1) ⟨a, rfl, q4, q8, rfl, hE, (by rw [up1_zero]; exact hG), hB1_0, (Nat.le_refl _), (by omega)⟩ ?_
      rintro mz f8 w8l ⟨k, hm, q4, q8, q11, hE, hG, hB1_0, hak, hki⟩
      refine wp_seq ?_
      refine wp_seq ?_
      refine W_region ?_
      refine L (D_v (R_move q11) ?_)
      refine L (D_v (R_move q8) ?_)
      refine L (D_v (R_subN (m := i) (j := 1) rfl rfl (by (try simp only [List.length_take, List.length_drop, List.length_append, List.length_cons, List.length_nil, List.length_replicate, List.length_set, Nm.b_len, be2_len]); omega) (by (try simp only [List.length_take, List.length_drop, List.length_append, List.length_cons, List.length_nil, List.length_replicate, List.length_set, Nm.b_len, be2_len]); omega)) ?_)
      refine L (D_v (R_lssI rfl rfl) ?_)
      refine S_nil ?_
      refine T_tn ?_
      refine W_if rfl (fun c3 => ?_) (fun c3 => ?_)
      ·
        have lk : k < i - 1 := by have e := of_decide_eq_true c3; omega
        refine wp_skip ?_
        refine T_tn ?_
        refine wp_seq ?_
        refine wp_block ?_
        refine W_region ?_
        refine L (D_v (R_fieldAddr Try.runUnderlying145 rfl Try.sizeOf141 q4) ?_)
        refine L (D_v (R_load Try.isAgg141 hB1_0 rfl rfl) ?_)
        refine L (D_v (R_move q11) ?_)
        refine L (D_v (R_move q11) ?_)
        refine L (D_v (R_addN (m := k) (j := 1) rfl rfl (by (try simp only [List.length_take, List.length_drop, List.length_append, List.length_cons, List.length_nil, List.length_replicate, List.length_set, Nm.b_len, be2_len]); omega)) ?_)
        refine L (D_callV rfl (mapv2 rfl rfl) (hR.swap _ _ (k) ((k + 1)) hG (by (try simp only [List.length_take, List.length_drop, List.length_append, List.length_cons, List.length_nil, List.length_replicate, List.length_set, Nm.b_len, be2_len]); omega) (by (try simp only [List.length_take, List.length_drop, List.length_append, List.length_cons, List.length_nil, List.length_replicate, List.length_set, Nm.b_len, be2_len]); omega)) ?_)
        rintro _ w10_5 ⟨rfl, e10_5, hG⟩
        replace hE := hE.chg e10_5
        replace hB1_0 := hB1_0.chg e10_5 nGB1_0.symm
        rw [up1_step f (by omega)] at hG
        refine S_nil ?_
        refine T_bn ?_
        refine T_tn ?_
        refine W_region ?_
        refine L (D_v (R_move q11) ?_)
        refine L (D_v (R_addN (m := k) (j := 1) rfl rfl (by (try simp only [List.length_take, List.length_drop, List.length_append, List.length_cons, List.length_nil, List.length_replicate, List.length_set, Nm.b_len, be2_len]); omega)) ?_)
        refine L (D_v (R_assign rfl) ?_)
        refine S_nil ?_
        refine T_tn ?_
        refine ⟨_, _, ?_, rfl, k + 1, rfl, q4, q8, rfl, hE, hG, hB1_0, ?_, ?_⟩
        all_goals omega
      ·
        have lk : ¬ k < i - 1 := by have e := of_decide_eq_false c3; omega
        refine wp_exit ?_
        refine T_te ?_
        refine T_te ?_
        refine T_be ?_
        refine T_tn ?_
        refine wp_ret ?_
        refine T_tr ?_
        refine ret0 rfl ⟨rfl, hE, ?_⟩
        have hk : k = i - 1 := by omega
        subst hk
        exact ⟨_, hG, Mv.up1 f (by omega) (by omega), up1_srt hR.ord (srt_mono hs2 (by omega) (Nat.le_refl _)) (by omega) (fun k k1 k2 => hlo k (by omega) (by omega)) (fun k k1 k2 => hhi k (by omega) k2)⟩
  ·
    have h1 : ¬ m - a = 1 := by simp at c1; omega
    refine wp_skip ?_
    refine T_tn ?_
    refine wp_seq ?_
    refine wp_seq ?_
    refine W_region ?_
    refine L (D_v (R_move rfl) ?_)
    refine L (D_v (R_move rfl) ?_)
    refine L (D_v (R_subN (m := b) (j := m) rfl rfl (by (try simp only [List.length_take, List.length_drop, List.length_append, List.length_cons, List.length_nil, List.length_replicate, List.length_set, Nm.b_len, be2_len]); omega) (by (try simp only [List.length_take, List.length_drop, List.length_append, List.length_cons, List.length_nil, List.length_replicate, List.length_set, Nm.b_len, be2_len]); omega)) ?_)
    refine L (D_v (R_eqlI rfl rfl) ?_)
    refine S_nil ?_
    refine T_tn ?_
    refine W_if rfl (fun c2 => ?_) (fun c2 => ?_)
    ·
      have h2 : b - m = 1 := by simp at c2; omega
      refine wp_seq ?_
      refine W_region ?_
      refine L (D_v (R_move rfl) ?_)
      refine L (D_v (R_assign rfl) ?_)
      refine S_nil ?_
      refine T_tn ?_
      refine wp_seq ?_
      refine W_region ?_
      refine L (D_v (R_move rfl) ?_)
      refine L (D_v (R_assign rfl) ?_)
      refine S_nil ?_
      refine T_tn ?_
      refine wp_seq ?_
      refine wp_block ?_
      refine W_loop (fun mz g W => ∃ (i : Nat) (j : Nat), mz = j - i ∧ g 2 = i64 ((m : Nat) : Int) ∧ g 4 = .pointer (some ⟨aB1_0, 0, none⟩) ∧ g 12 = i64 ((i : Nat) : Int) ∧ g 13 = i64 ((j : Nat) : Int) ∧ Chg gB w W ∧ S (f) W ∧ Blk W aB1_0 [lf, sf] 145 ∧ a ≤ i ∧ i ≤ j ∧ j ≤ m ∧ (∀ c : Nat, a ≤ c → c < i → lt (f m) (f c) = false) ∧ (∀ c : Nat, j ≤ c → c < m → lt (f m) (f c) = true)) ⟨a, m, rfl, rfl, rfl, rfl, rfl, hE, hG, hB1_0, (Nat.le_refl _), (by omega), (Nat.le_refl _), (fun c c1 c2 => by omega), (fun c c1 c2 => by omega)⟩ ?_
      rintro mz f6 w6l ⟨i, j, hm, q2, q4, q12, q13, hE, hG, hB1_0, hai, hij, hjm, hlo, hhi⟩
      refine wp_seq ?_
      refine wp_seq ?_
      refine W_region ?_
      refine L (D_v (R_move q12) ?_)
      refine L (D_v (R_move q13) ?_)
      refine L (D_v (R_lssI rfl rfl) ?_)
      refine S_nil ?_
      refine T_tn ?_
      refine W_if rfl (fun c3 => ?_) (fun c3 => ?_)
      ·
        have li : i < j := by have e := of_decide_eq_true c3; omega
        refine wp_skip ?_
        refine T_tn ?_
        refine wp_block ?_
        refine wp_seq ?_
        refine W_region ?_
        refine L (D_v (R_move q12) ?_)
        refine L (D_v (R_move q13) ?_)
        refine L (D_v (R_addN (m := i) (j := j) rfl rfl (by (try simp only [List.length_take, List.length_drop, List.length_append, List.length_cons, List.length_nil, List.length_replicate, List.length_set, Nm.b_len, be2_len]); omega)) ?_)
        refine L (D_v (R_cvU (m := (i + j)) Try.runUnderlying3 Try.runUnderlying83 rfl (by (try simp only [List.length_take, List.length_drop, List.length_append, List.length_cons, List.length_nil, List.length_replicate, List.length_set, Nm.b_len, be2_len]); omega)) ?_)
        refine L (D_v (R_shrU (m := (i + j)) rfl rfl) ?_)
        refine L (D_v (R_cvI (m := ((i + j) / 2)) Try.runUnderlying83 Try.runUnderlying3 rfl (by (try simp only [List.length_take, List.length_drop, List.length_append, List.length_cons, List.length_nil, List.length_replicate, List.length_set, Nm.b_len, be2_len]); omega)) ?_)
        refine L (D_v (R_assign rfl) ?_)
        refine S_nil ?_
        refine T_tn ?_
        refine wp_seq ?_
        refine W_region ?_
        refine L (D_v (R_fieldAddr Try.runUnderlying145 rfl Try.sizeOf103 q4) ?_)
        refine L (D_v (R_load Try.isAgg103 hB1_0 rfl rfl) ?_)
        refine L (D_v (R_move q2) ?_)
        refine L (D_v (R_move rfl) ?_)
        refine L (D_callV rfl (mapv2 rfl rfl) (hR.less _ _ (m) (((i + j) / 2)) hG (by (try simp only [List.length_take, List.length_drop, List.length_append, List.length_cons, List.length_nil, List.length_replicate, List.length_set, Nm.b_len, be2_len]); omega) (by (try simp only [List.length_take, List.length_drop, List.length_append, List.length_cons, List.length_nil, List.length_replicate, List.length_set, Nm.b_len, be2_len]); omega)) ?_)
        rintro _ w9_4 ⟨rfl, e9_4⟩
        replace hE := hE.trans e9_4
        replace hG := hR.ext _ _ _ hG e9_4
        replace hB1_0 := hB1_0.ext e9_4
        refine L (D_v (R_not rfl) ?_)
        refine S_nil ?_
        refine T_tn ?_
        refine W_if rfl (fun c4 => ?_) (fun c4 => ?_)
        ·
          have hl : lt (f m) (f ((i + j) / 2)) = false := by simpa using c4
          refine W_region ?_
          refine L (D_v (R_move rfl) ?_)
          refine L (D_v (R_addN (m := ((i + j) / 2)) (j := 1) rfl rfl (by (try simp only [List.length_take, List.length_drop, List.length_append, List.length_cons, List.length_nil, List.length_replicate, List.length_set, Nm.b_len, be2_len]); omega)) ?_)
          refine L (D_v (R_assign rfl) ?_)
          refine S_nil ?_
          refine T_bn ?_
          refine T_tn ?_
          refine ⟨_, _, ?_, rfl, _, _, rfl, q2, q4, rfl, q13, hE, hG, hB1_0, ?_, ?_, ?_, ?_, ?_⟩
          all_goals first | omega | exact hlo | exact hhi | exact fun c c1 c2 => bt_lo hR.ord hs1 hl ⟨c1, by omega⟩ (by omega) | exact fun c c1 c2 => bt_hi hR.ord hs1 hl ⟨c1, c2⟩ (by omega)
        ·
          have hl : lt (f m) (f ((i + j) / 2)) = true := by simpa using c4
          refine W_region ?_
          refine L (D_v (R_move rfl) ?_)
          refine L (D_v (R_assign rfl) ?_)
          refine S_nil ?_
          refine T_bn ?_
          refine T_tn ?_
          refine ⟨_, _, ?_, rfl, _, _, rfl, q2, q4, q12, rfl, hE, hG, hB1_0, ?_, ?_, ?_, ?_, ?_⟩
          all_goals first | omega | exact hlo | exact hhi | exact fun c c1 c2 => bt_lo hR.ord hs1 hl ⟨c1, by omega⟩ (by omega) | exact fun c c1 c2 => bt_hi hR.ord hs1 hl ⟨c1, c2⟩ (by omega)
      ·
        have li : ¬ i < j := by have e := of_decide_eq_false c3; omega
        obtain rfl : i = j := by omega
        refine wp_exit ?_
        refine T_te ?_
        refine T_te ?_
        refine T_be ?_
        refine T_tn ?_
        refine wp_seq ?_
        refine wp_seq ?_
        refine W_region ?_
        refine L (D_v (R_move q2) ?_)
        refine L (D_v (R_assign rfl) ?_)
        refine S_nil ?_
        refine T_tn ?_
        refine wp_block ?_
        refine W_loop (fun mz g W => ∃ (k : Nat), mz = k + 0 ∧ g 4 = .pointer (some ⟨aB1_0, 0, none⟩) ∧ g 12 = i64 ((i : Nat) : Int) ∧ g 15 = i64 ((k : Nat) : Int) ∧ Chg gB w W ∧ S (dn1 f m k) W ∧ Blk W aB1_0 [lf, sf] 145 ∧ i ≤ k ∧ k ≤ m) ⟨m, rfl, q4, q12, rfl, hE, (by rw [dn1_zero]; exact hG), hB1_0, (by omega), (Nat.le_refl _)⟩ ?_
        rintro mz f9 w9l ⟨k, hm, q4, q12, q15, hE, hG, hB1_0, hik, hkm⟩
        refine wp_seq ?_
        refine wp_seq ?_
        refine W_region ?_
        refine L (D_v (R_move q15) ?_)
        refine L (D_v (R_move q12) ?_)
        refine L (D_v (R_gtrI rfl rfl) ?_)
        refine S_nil ?_
        refine T_tn ?_
        refine W_if rfl (fun c4 => ?_) (fun c4 => ?_)
        ·
          have lk : i < k := by have e := of_decide_eq_true c4; omega
          refine wp_skip ?_
          refine T_tn ?_
          refine wp_seq ?_
          refine wp_block ?_
          refine W_region ?_
          refine L (D_v (R_fieldAddr Try.runUnderlying145 rfl Try.sizeOf141 q4) ?_)
          refine L (D_v (R_load Try.isAgg141 hB1_0 rfl rfl) ?_)
          refine L (D_v (R_move q15) ?_)
          refine L (D_v (R_move q15) ?_)
          refine L (D_v (R_subN (m := k) (j := 1) rfl rfl (by (try simp only [List.length_take, List.length_drop, List.length_append, List.length_cons, List.length_nil, List.length_replicate, List.length_set, Nm.b_len, be2_len]); omega) (by (try simp only [List.length_take, List.length_drop, List.length_append, List.length_cons, List.length_nil, List.length_replicate, List.length_set, Nm.b_len, be2_len]); omega)) ?_)
          refine L (D_callV rfl (mapv2 rfl rfl) (hR.swap _ _ (k) ((k - 1)) hG (by (try simp only [List.length_take, List.length_drop, List.length_append, List.length_cons, List.length_nil, List.length_replicate, List.length_set, Nm.b_len, be2_len]); omega) (by (try simp only [List.length_take, List.length_drop, List.length_append, List.length_cons, List.length_nil, List.length_replicate, List.length_set, Nm.b_len, be2_len]); omega)) ?_)
          rintro _ w11_5 ⟨rfl, e11_5, hG⟩
          replace hE := hE.chg e11_5
          replace hB1_0 := hB1_0.chg e11_5 nGB1_0.symm
          rw [dn1_step2 f (by omega) (by omega)] at hG
          refine S_nil ?_
          refine T_bn ?_
          refine T_tn ?_
          refine W_region ?_
          refine L (D_v (R_move q15) ?_)
          refine L (D_v (R_subN (m := k) (j := 1) rfl rfl (by (try simp only [List.length_take, List.length_drop, List.length_append, List.length_cons, List.length_nil, List.length_replicate, List.length_set, Nm.b_len, be2_len]); omega) (by (try simp only [List.length_take, List.length_drop, List.length_append, List.length_cons, List.length_nil, List.length_replicate, List.length_set, Nm.b_len, be2_len]); omega)) ?_)
          refine L (D_v (R_assign rfl) ?_)
          refine S_nil ?_
          refine T_tn ?_
          refine ⟨_, _, ?_, rfl, k - 1, rfl, q4, q12, rfl, hE, hG, hB1_0, ?_, ?_⟩
          all_goals omega
        ·
          have lk : ¬ i < k := by have e := of_decide_eq_false c4; omega
          refine wp_exit ?_
          refine T_te ?_
          refine T_te ?_
          refine T_be ?_
          refine T_tn ?_
          refine wp_ret ?_
          refine T_tr ?_
          refine ret0 rfl ⟨rfl, hE, ?_⟩
          have hk : k = i := by omega
          subst hk
          have hs := dn1_srt hR.ord hs1 (i := k) (by omega) (fun c k1 k2 => hlo c k1 k2) (fun c k1 k2 => hhi c k1 k2)
          rw [show m + 1 = b by omega] at hs
          exact ⟨_, hG, Mv.dn1 f (by omega) (by omega) (by omega), hs⟩
    ·
      have h2 : ¬ b - m = 1 := by simp at c2; omega
      refine wp_skip ?_
      refine T_tn ?_
      refine wp_seq ?_
      refine W_region ?_
      refine L (D_v (R_move rfl) ?_)
      refine L (D_v (R_move rfl) ?_)
      refine L (D_v (R_addN (m := a) (j := b) rfl rfl (by (try simp only [List.length_take, List.length_drop, List.length_append, List.length_cons, List.length_nil, List.length_replicate, List.length_set, Nm.b_len, be2_len]); omega)) ?_)
      refine L (D_v (R_cvU (m := (a + b)) Try.runUnderlying3 Try.runUnderlying83 rfl (by (try simp only [List.length_take, List.length_drop, List.length_append, List.length_cons, List.length_nil, List.length_replicate, List.length_set, Nm.b_len, be2_len]); omega)) ?_)
      refine L (D_v (R_shrU (m := (a + b)) rfl rfl) ?_)
      refine L (D_v (R_cvI (m := ((a + b) / 2)) Try.runUnderlying83 Try.runUnderlying3 rfl (by (try simp only [List.length_take, List.length_drop, List.length_append, List.length_cons, List.length_nil, List.length_replicate, List.length_set, Nm.b_len, be2_len]); omega)) ?_)
      refine L (D_v (R_assign rfl) ?_)
      refine S_nil ?_
      refine T_tn ?_
      refine wp_seq ?_
      refine W_region ?_
      refine L (D_v (R_move rfl) ?_)
      refine L (D_v (R_move rfl) ?_)
      refine L (D_v (R_addN (m := ((a + b) / 2)) (j := m) rfl rfl (by (try simp only [List.length_take, List.length_drop, List.length_append, List.length_cons, List.length_nil, List.length_replicate, List.length_set, Nm.b_len, be2_len]); omega)) ?_)
      refine L (D_v (R_assign rfl) ?_)
      refine S_nil ?_
      refine T_tn ?_
      refine wp_seq ?_
      refine W_region ?_
      refine L (D_v (R_assign rfl) ?_)
      refine L (D_v (R_assign rfl) ?_)
      refine S_nil ?_
      refine T_tn ?_
      refine wp_seq ?_
      refine wp_seq ?_
      refine W_region ?_
      refine L (D_v (R_move rfl) ?_)
      refine L (D_v (R_move rfl) ?_)
      refine L (D_v (R_gtrI rfl rfl) ?_)
      refine S_nil ?_
      refine T_tn ?_
      refine W_if rfl (fun c3 => ?_) (fun c3 => ?_)
      ·
        have hc : ((a + b) / 2) < m := by have e := of_decide_eq_true c3; omega
        refine wp_seq ?_
        refine W_region ?_
        refine L (D_v (R_move rfl) ?_)
        refine L (D_v (R_move rfl) ?_)
        refine L (D_v (R_subN (m := (((a + b) / 2) + m)) (j := b) rfl rfl (by (try simp only [List.length_take, List.length_drop, List.length_append, List.length_cons, List.length_nil, List.length_replicate, List.length_set, Nm.b_len, be2_len]); omega) (by (try simp only [List.length_take, List.length_drop, List.length_append, List.length_cons, List.length_nil, List.length_replicate, List.length_set, Nm.b_len, be2_len]); omega)) ?_)
        refine L (D_v (R_assign rfl) ?_)
        refine S_nil ?_
        refine T_tn ?_
        refine W_region ?_
        refine L (D_v (R_move rfl) ?_)
        refine L (D_v (R_assign rfl) ?_)
        refine S_nil ?_
        refine T_tn ?_
        refine wp_seq ?_
        refine W_region ?_
        refine L (D_v (R_move rfl) ?_)
        refine L (D_v (R_subN (m := (((a + b) / 2) + m)) (j := 1) rfl rfl (by (try simp only [List.length_take, List.length_drop, List.length_append, List.length_cons, List.length_nil, List.length_replicate, List.length_set, Nm.b_len, be2_len]); omega) (by (try simp only [List.length_take, List.length_drop, List.length_append, List.length_cons, List.length_nil, List.length_replicate, List.length_set, Nm.b_len, be2_len]); omega)) ?_)
        refine L (D_v (R_assign rfl) ?_)
        refine S_nil ?_
        refine T_tn ?_
        refine wp_seq ?_
        refine wp_block ?_
        refine W_loop (fun mz g W => ∃ (s : Nat) (r : Nat), mz = r - s ∧ g 1 = i64 ((a : Nat) : Int) ∧ g 2 = i64 ((m : Nat) : Int) ∧ g 3 = i64 ((b : Nat) : Int) ∧ g 4 = .pointer (some ⟨aB1_0, 0, none⟩) ∧ g 16 = i64 ((((a + b) / 2) : Nat) : Int) ∧ g 17 = i64 (((((a + b) / 2) + m) : Nat) : Int) ∧ g 18 = i64 ((s : Nat) : Int) ∧ g 19 = i64 ((r : Nat) : Int) ∧ g 20 = i64 ((((((a + b) / 2) + m) - 1) : Nat) : Int) ∧ Chg gB w W ∧ S (f) W ∧ Blk W aB1_0 [lf, sf] 145 ∧ (((a + b) / 2) + m) - b ≤ s ∧ s ≤ r ∧ r ≤ ((a + b) / 2) ∧ ((s = (((a + b) / 2) + m) - b ∨ lt (f ((((a + b) / 2) + m) - s)) (f (s - 1)) = false)) ∧ ((r = ((a + b) / 2) ∨ lt (f ((((a + b) / 2) + m) - r - 1)) (f r) = true))) ⟨(((a + b) / 2) + m) - b, ((a + b) / 2), rfl, rfl, rfl, rfl, rfl, rfl, rfl, rfl, rfl, rfl, hE, hG, hB1_0, (by omega), (by omega), (by omega), (.inl rfl), (.inl rfl)⟩ ?_
        rintro mz f11 w11l ⟨s, r, hm, q1, q2, q3, q4, q16, q17, q18, q19, q20, hE, hG, hB1_0, hs0, hsr, hr0, H1, H2⟩
        refine wp_seq ?_
        refine wp_seq ?_
        refine W_region ?_
        refine L (D_v (R_move q18) ?_)
        refine L (D_v (R_move q19) ?_)
        refine L (D_v (R_lssI rfl rfl) ?_)
        refine S_nil ?_
        refine T_tn ?_
        refine W_if rfl (fun c4 => ?_) (fun c4 => ?_)
        ·
          have ls : s < r := by have e := of_decide_eq_true c4; omega
          refine wp_skip ?_
          refine T_tn ?_
          refine wp_block ?_
          refine wp_seq ?_
          refine W_region ?_
          refine L (D_v (R_move q18) ?_)
          refine L (D_v (R_move q19) ?_)
          refine L (D_v (R_addN (m := s) (j := r) rfl rfl (by (try simp only [List.length_take, List.length_drop, List.length_append, List.length_cons, List.length_nil, List.length_replicate, List.length_set, Nm.b_len, be2_len]); omega)) ?_)
          refine L (D_v (R_cvU (m := (s + r)) Try.runUnderlying3 Try.runUnderlying83 rfl (by (try simp only [List.length_take, List.length_drop, List.length_append, List.length_cons, List.length_nil, List.length_replicate, List.length_set, Nm.b_len, be2_len]); omega)) ?_)
          refine L (D_v (R_shrU (m := (s + r)) rfl rfl) ?_)
          refine L (D_v (R_cvI (m := ((s + r) / 2)) Try.runUnderlying83 Try.runUnderlying3 rfl (by (try simp only [List.length_take, List.length_drop, List.length_append, List.length_cons, List.length_nil, List.length_replicate, List.length_set, Nm.b_len, be2_len]); omega)) ?_)
          refine L (D_v (R_assign rfl) ?_)
          refine S_nil ?_
          refine T_tn ?_
          refine wp_seq ?_
          refine W_region ?_
          refine L (D_v (R_fieldAddr Try.runUnderlying145 rfl Try.sizeOf103 q4) ?_)
          refine L (D_v (R_load Try.isAgg103 hB1_0 rfl rfl) ?_)
          refine L (D_v (R_move q20) ?_)
          refine L (D_v (R_move rfl) ?_)
          refine L (D_v (R_subN (m := ((((a + b) / 2) + m) - 1)) (j := ((s + r) / 2)) rfl rfl (by (try simp only [List.length_take, List.length_drop, List.length_append, List.length_cons, List.length_nil, List.length_replicate, List.length_set, Nm.b_len, be2_len]); omega) (by (try simp only [List.length_take, List.length_drop, List.length_append, List.length_cons, List.length_nil, List.length_replicate, List.length_set, Nm.b_len, be2_len]); omega)) ?_)
          refine L (D_v (R_move rfl) ?_)
          refine L (D_callV rfl (mapv2 rfl rfl) (hR.less _ _ ((((((a + b) / 2) + m) - 1) - ((s + r) / 2))) (((s + r) / 2)) hG (by (try simp only [List.length_take, List.length_drop, List.length_append, List.length_cons, List.length_nil, List.length_replicate, List.length_set, Nm.b_len, be2_len]); omega) (by (try simp only [List.length_take, List.length_drop, List.length_append, List.length_cons, List.length_nil, List.length_replicate, List.length_set, Nm.b_len, be2_len]); omega)) ?_)
          rintro _ w14_6 ⟨rfl, e14_6⟩
          replace hE := hE.trans e14_6
          replace hG := hR.ext _ _ _ hG e14_6
          replace hB1_0 := hB1_0.ext e14_6
          refine L (D_v (R_not rfl) ?_)
          refine S_nil ?_
          refine T_tn ?_
          refine W_if rfl (fun c5 => ?_) (fun c5 => ?_)
          ·
            have hl : lt (f ((((a + b) / 2) + m) - 1 - (s + r) / 2)) (f ((s + r) / 2)) = false := by simpa using c5
            refine W_region ?_
            refine L (D_v (R_move rfl) ?_)
            refine L (D_v (R_addN (m := ((s + r) / 2)) (j := 1) rfl rfl (by (try simp only [List.length_take, List.length_drop, List.length_append, List.length_cons, List.length_nil, List.length_replicate, List.length_set, Nm.b_len, be2_len]); omega)) ?_)
            refine L (D_v (R_assign rfl) ?_)
            refine S_nil ?_
            refine T_bn ?_
            refine T_tn ?_
            refine ⟨_, _, ?_, rfl, _, _, rfl, q1, q2, q3, q4, q16, q17, rfl, q19, q20, hE, hG, hB1_0, ?_, ?_, ?_, ?_, ?_⟩
            all_goals first | omega | exact H1 | exact H2 | (refine .inr ?_; rw [show (((a + b) / 2) + m) - ((s + r) / 2 + 1) = (((a + b) / 2) + m) - 1 - (s + r) / 2 by omega, show (s + r) / 2 + 1 - 1 = (s + r) / 2 by omega]; exact hl) | (refine .inr ?_; rw [show (((a + b) / 2) + m) - (s + r) / 2 - 1 = (((a + b) / 2) + m) - 1 - (s + r) / 2 by omega]; exact hl)
          ·
            have hl : lt (f ((((a + b) / 2) + m) - 1 - (s + r) / 2)) (f ((s + r) / 2)) = true := by simpa using c5
            refine W_region ?_
            refine L (D_v (R_move rfl) ?_)
            refine L (D_v (R_assign rfl) ?_)
            refine S_nil ?_
            refine T_bn ?_
            refine T_tn ?_
            refine ⟨_, _, ?_, rfl, _, _, rfl, q1, q2, q3, q4, q16, q17, q18, rfl, q20, hE, hG, hB1_0, ?_, ?_, ?_, ?_, ?_⟩
            all_goals first | omega | exact H1 | exact H2 | (refine .inr ?_; rw [show (((a + b) / 2) + m) - ((s + r) / 2 + 1) = (((a + b) / 2) + m) - 1 - (s + r) / 2 by omega, show (s + r) / 2 + 1 - 1 = (s + r) / 2 by omega]; exact hl) | (refine .inr ?_; rw [show (((a + b) / 2) + m) - (s + r) / 2 - 1 = (((a + b) / 2) + m) - 1 - (s + r) / 2 by omega]; exact hl)
        ·
          have ls : ¬ s < r := by have e := of_decide_eq_false c4; omega
          obtain rfl : s = r := by omega
          have H1b : s = a ∨ (((a + b) / 2) + m) - s = b ∨ lt (f ((((a + b) / 2) + m) - s)) (f (s - 1)) = false := H1.elim (fun e => by omega) (fun e => .inr (.inr e))
          have H2b : s = m ∨ s = ((a + b) / 2) ∨ lt (f ((((a + b) / 2) + m) - s - 1)) (f s) = true := H2.elim (fun e => by omega) (fun e => .inr (.inr e))
          obtain ⟨r1, r2, r3, r4, rc⟩ := merge_rot (mid := ((a + b) / 2)) hR.ord hs1 hs2 ham hmb rfl (by omega) H1b H2b
          have hrt := (Mv.rt f (a := s) (m := m) (b := (((a + b) / 2) + m) - s) (by omega) (by omega)).mono (a' := a) (b' := b) (by omega) (by omega)
          refine wp_exit ?_
          refine T_te ?_
          refine T_te ?_
          refine T_be ?_
          refine T_tn ?_
          refine wp_seq ?_
          refine W_region ?_
          refine L (D_v (R_move q17) ?_)
          refine L (D_v (R_move q18) ?_)
          refine L (D_v (R_subN (m := (((a + b) / 2) + m)) (j := s) rfl rfl (by (try simp only [List.length_take, List.length_drop, List.length_append, List.length_cons, List.length_nil, List.length_replicate, List.length_set, Nm.b_len, be2_len]); omega) (by (try simp only [List.length_take, List.length_drop, List.length_append, List.length_cons, List.length_nil, List.length_replicate, List.length_set, Nm.b_len, be2_len]); omega)) ?_)
          refine L (D_v (R_assign rfl) ?_)
          refine S_nil ?_
          refine T_tn ?_
          refine wp_seq ?_
          refine wp_seq ?_
          refine W_region ?_
          refine L (D_v (R_move q18) ?_)
          refine L (D_v (R_move q2) ?_)
          refine L (D_v (R_lssI rfl rfl) ?_)
          refine L (D_v (R_move rfl) ?_)
          refine L (D_g1 rfl rfl (fun hb => R_move q2) ?_)
          refine L (D_g1 rfl rfl (fun hb => R_move rfl) ?_)
          refine L (D_g1 rfl rfl (fun hb => R_lssI (cgE hb) (cgE hb)) ?_)
          refine L (D_v (R_pickA rfl rfl rfl) ?_)
          refine S_nil ?_
          refine T_tn ?_
          refine W_if rfl (fun c5 => ?_) (fun c5 => ?_)
          ·
            have hg : s < m ∧ m < (((a + b) / 2) + m) - s := by have e := c5; simp only [Bool.and_eq_true, decide_eq_true_eq] at e; omega
            refine W_region ?_
            refine L (D_v (R_loadA (c := [lf, sf]) Try.isAgg145 Try.sizeOf145 hB1_0 q4 rfl rfl) ?_)
            refine L (D_v (R_move q18) ?_)
            refine L (D_v (R_move q2) ?_)
            refine L (D_v (R_move rfl) ?_)
            refine L (D_callS (R_callF Try.call175 rfl rfl) (c175 hR (f) (s) (m) (((((a + b) / 2) + m) - s)) _ hG (by omega) (by omega) (by omega)) (fun w15_4 p15_4 => ?_))
            obtain ⟨e15_4, hG⟩ := p15_4
            replace hE := hE.chg e15_4
            replace hB1_0 := hB1_0.chg e15_4 nGB1_0.symm
            refine S_nil ?_
            refine T_tn ?_
            refine wp_seq ?_
            refine wp_seq ?_
            refine W_region ?_
            refine L (D_v (R_move q1) ?_)
            refine L (D_v (R_move q18) ?_)
            refine L (D_v (R_lssI rfl rfl) ?_)
            refine L (D_v (R_move rfl) ?_)
            refine L (D_g1 rfl rfl (fun hb => R_move q18) ?_)
            refine L (D_g1 rfl rfl (fun hb => R_move q16) ?_)
            refine L (D_g1 rfl rfl (fun hb => R_lssI (cgE hb) (cgE hb)) ?_)
            refine L (D_v (R_pickA rfl rfl rfl) ?_)
            refine S_nil ?_
            refine T_tn ?_
            refine W_if rfl (fun c6 => ?_) (fun c6 => ?_)
            ·
              have hu : a < s ∧ s < ((a + b) / 2) := by have e := c6; simp only [Bool.and_eq_true, decide_eq_true_eq] at e; omega
              refine W_region ?_
              refine L (D_v (R_loadA (c := [lf, sf]) Try.isAgg145 Try.sizeOf145 hB1_0 q4 rfl rfl) ?_)
              refine L (D_v (R_move q1) ?_)
              refine L (D_v (R_move q18) ?_)
              refine L (D_v (R_move q16) ?_)
              refine L (D_callS (R_callF Try.call156 rfl rfl) (ih (rt (f) (s) (m) (((((a + b) / 2) + m) - s))) (a) (s) (((a + b) / 2)) _ (by omega) hG (by omega) (by omega) (by omega) r1 r2) (fun w17_4 p17_4 => ?_))
              obtain ⟨e17_4, h17_4, hG, q17_4⟩ := p17_4
              replace hE := hE.chg e17_4
              replace hB1_0 := hB1_0.chg e17_4 nGB1_0.symm
              refine S_nil ?_
              refine T_tn ?_
              refine wp_seq ?_
              refine W_region ?_
              refine L (D_v (R_move q16) ?_)
              refine L (D_v (R_move rfl) ?_)
              refine L (D_v (R_lssI rfl rfl) ?_)
              refine L (D_v (R_move rfl) ?_)
              refine L (D_g1 rfl rfl (fun hb => R_move rfl) ?_)
              refine L (D_g1 rfl rfl (fun hb => R_move q3) ?_)
              refine L (D_g1 rfl rfl (fun hb => R_lssI (cgE hb) (cgE hb)) ?_)
              refine L (D_v (R_pickA rfl rfl rfl) ?_)
              refine S_nil ?_
              refine T_tn ?_
              refine W_if rfl (fun c7 => ?_) (fun c7 => ?_)
              ·
                obtain ⟨m1, z1⟩ := q17_4
                have r3b := srt_same r3 (g := h17_4) fun k k1 k2 => m1.out k (.inr k1)
                have r4b := srt_same r4 (g := h17_4) fun k k1 k2 => m1.out k (.inr (by omega))
                have hv : ((a + b) / 2) < (((a + b) / 2) + m) - s ∧ (((a + b) / 2) + m) - s < b := by have e := c7; simp only [Bool.and_eq_true, decide_eq_true_eq] at e; omega
                refine W_region ?_
                refine L (D_v (R_loadA (c := [lf, sf]) Try.isAgg145 Try.sizeOf145 hB1_0 q4 rfl rfl) ?_)
                refine L (D_v (R_move q16) ?_)
                refine L (D_v (R_move rfl) ?_)
                refine L (D_v (R_move q3) ?_)
                refine L (D_callS (R_callF Try.call156 rfl rfl) (ih (h17_4) (((a + b) / 2)) (((((a + b) / 2) + m) - s)) (b) _ (by omega) hG (by omega) (by omega) (by omega) r3b r4b) (fun w19_4 p19_4 => ?_))
                obtain ⟨e19_4, h19_4, hG, q19_4⟩ := p19_4
                replace hE := hE.chg e19_4
                replace hB1_0 := hB1_0.chg e19_4 nGB1_0.symm
                refine S_nil ?_
                refine ret0n rfl ⟨rfl, hE, ?_⟩
                obtain ⟨m2, z2⟩ := q19_4
                obtain ⟨ma, za⟩ := merge_end (mid := ((a + b) / 2)) (by omega) m1 m2 z1 z2 rc
                exact ⟨_, hG, hrt.trans ma, za⟩
              ·
                obtain ⟨m1, z1⟩ := q17_4
                have r3b := srt_same r3 (g := h17_4) fun k k1 k2 => m1.out k (.inr k1)
                have r4b := srt_same r4 (g := h17_4) fun k k1 k2 => m1.out k (.inr (by omega))
                have hv : ¬ (((a + b) / 2) < (((a + b) / 2) + m) - s ∧ (((a + b) / 2) + m) - s < b) := by have e := c7; simp only [Bool.and_eq_false_iff, decide_eq_false_iff_not] at e; omega
                have m2 := Mv.refl (h17_4) ((a + b) / 2) b
                have z2 : srt lt (h17_4) ((a + b) / 2) b := (Nat.eq_or_lt_of_le (show ((a + b) / 2) ≤ (((a + b) / 2) + m) - s by omega)).elim (fun e => srt_from r4b e) (fun e => srt_mono r3b (Nat.le_refl _) (by omega))
                refine wp_skip ?_
                refine ret0n rfl ⟨rfl, hE, ?_⟩
                obtain ⟨ma, za⟩ := merge_end (mid := ((a + b) / 2)) (by omega) m1 m2 z1 z2 rc
                exact ⟨_, hG, hrt.trans ma, za⟩
            ·
              have hu : ¬ (a < s ∧ s < ((a + b) / 2)) := by have e := c6; simp only [Bool.and_eq_false_iff, decide_eq_false_iff_not] at e; omega
              have m1 := Mv.refl (rt (f) (s) (m) (((((a + b) / 2) + m) - s))) a ((a + b) / 2)
              have z1 : srt lt (rt (f) (s) (m) (((((a + b) / 2) + m) - s))) a ((a + b) / 2) := (Nat.eq_or_lt_of_le (show a ≤ s by omega)).elim (fun e => srt_from r2 e) (fun e => srt_mono r1 (Nat.le_refl _) (by omega))
              refine wp_skip ?_
              refine T_tn ?_
              refine wp_seq ?_
              refine W_region ?_
              refine L (D_v (R_move q16) ?_)
              refine L (D_v (R_move rfl) ?_)
              refine L (D_v (R_lssI rfl rfl) ?_)
              refine L (D_v (R_move rfl) ?_)
              refine L (D_g1 rfl rfl (fun hb => R_move rfl) ?_)
              refine L (D_g1 rfl rfl (fun hb => R_move q3) ?_)
              refine L (D_g1 rfl rfl (fun hb => R_lssI (cgE hb) (cgE hb)) ?_)
              refine L (D_v (R_pickA rfl rfl rfl) ?_)
              refine S_nil ?_
              refine T_tn ?_
              refine W_if rfl (fun c7 => ?_) (fun c7 => ?_)
              ·
                have r3b := srt_same r3 (g := rt (f) (s) (m) (((((a + b) / 2) + m) - s))) fun k k1 k2 => m1.out k (.inr k1)
                have r4b := srt_same r4 (g := rt (f) (s) (m) (((((a + b) / 2) + m) - s))) fun k k1 k2 => m1.out k (.inr (by omega))
                have hv : ((a + b) / 2) < (((a + b) / 2) + m) - s ∧ (((a + b) / 2) + m) - s < b := by have e := c7; simp only [Bool.and_eq_true, decide_eq_true_eq] at e; omega
                refine W_region ?_
                refine L (D_v (R_loadA (c := [lf, sf]) Try.isAgg145 Try.sizeOf145 hB1_0 q4 rfl rfl) ?_)
                refine L (D_v (R_move q16) ?_)
                refine L (D_v (R_move rfl) ?_)
                refine L (D_v (R_move q3) ?_)
                refine L (D_callS (R_callF Try.call156 rfl rfl) (ih (rt (f) (s) (m) (((((a + b) / 2) + m) - s))) (((a + b) / 2)) (((((a + b) / 2) + m) - s)) (b) _ (by omega) hG (by omega) (by omega) (by omega) r3b r4b) (fun w18_4 p18_4 => ?_))
                obtain ⟨e18_4, h18_4, hG, q18_4⟩ := p18_4
                replace hE := hE.chg e18_4
                replace hB1_0 := hB1_0.chg e18_4 nGB1_0.symm
                refine S_nil ?_
                refine ret0n rfl ⟨rfl, hE, ?_⟩
                obtain ⟨m2, z2⟩ := q18_4
                obtain ⟨ma, za⟩ := merge_end (mid := ((a + b) / 2)) (by omega) m1 m2 z1 z2 rc
                exact ⟨_, hG, hrt.trans ma, za⟩
              ·
                have r3b := srt_same r3 (g := rt (f) (s) (m) (((((a + b) / 2) + m) - s))) fun k k1 k2 => m1.out k (.inr k1)
                have r4b := srt_same r4 (g := rt (f) (s) (m) (((((a + b) / 2) + m) - s))) fun k k1 k2 => m1.out k (.inr (by omega))
                have hv : ¬ (((a + b) / 2) < (((a + b) / 2) + m) - s ∧ (((a + b) / 2) + m) - s < b) := by have e := c7; simp only [Bool.and_eq_false_iff, decide_eq_false_iff_not] at e; omega
                have m2 := Mv.refl (rt (f) (s) (m) (((((a + b) / 2) + m) - s))) ((a + b) / 2) b
                have z2 : srt lt (rt (f) (s) (m) (((((a + b) / 2) + m) - s))) ((a + b) / 2) b := (Nat.eq_or_lt_of_le (show ((a + b) / 2) ≤ (((a + b) / 2) + m) - s by omega)).elim (fun e => srt_from r4b e) (fun e => srt_mono r3b (Nat.le_refl _) (by omega))
                refine wp_skip ?_
                refine ret0n rfl ⟨rfl, hE, ?_⟩
                obtain ⟨ma, za⟩ := merge_end (mid := ((a + b) / 2)) (by omega) m1 m2 z1 z2 rc
                exact ⟨_, hG, hrt.trans ma, za⟩
          ·
            have hg : ¬ (s < m ∧ m < (((a + b) / 2) + m) - s) := by have e := c5; simp only [Bool.and_eq_false_iff, decide_eq_false_iff_not] at e; omega
            rw [← rt_id f (a := s) (m := m) (b := (((a + b) / 2) + m) - s) (by omega) (by omega)] at hG
            refine wp_skip ?_
            refine T_tn ?_
            refine wp_seq ?_
            refine wp_seq ?_
            refine W_region ?_
            refine L (D_v (R_move q1) ?_)
            refine L (D_v (R_move q18) ?_)
            refine L (D_v (R_lssI rfl rfl) ?_)
            refine L (D_v (R_move rfl) ?_)
            refine L (D_g1 rfl rfl (fun hb => R_move q18) ?_)
            refine L (D_g1 rfl rfl (fun hb => R_move q16) ?_)
            refine L (D_g1 rfl rfl (fun hb => R_lssI (cgE hb) (cgE hb)) ?_)
            refine L (D_v (R_pickA rfl rfl rfl) ?_)
            refine S_nil ?_
            refine T_tn ?_
            refine W_if rfl (fun c6 => ?_) (fun c6 => ?_)
            ·
              have hu : a < s ∧ s < ((a + b) / 2) := by have e := c6; simp only [Bool.and_eq_true, decide_eq_true_eq] at e; omega
              refine W_region ?_
              refine L (D_v (R_loadA (c := [lf, sf]) Try.isAgg145 Try.sizeOf145 hB1_0 q4 rfl rfl) ?_)
              refine L (D_v (R_move q1) ?_)
              refine L (D_v (R_move q18) ?_)
              refine L (D_v (R_move q16) ?_)
              refine L (D_callS (R_callF Try.call156 rfl rfl) (ih (rt (f) (s) (m) (((((a + b) / 2) + m) - s))) (a) (s) (((a + b) / 2)) _ (by omega) hG (by omega) (by omega) (by omega) r1 r2) (fun w16_4 p16_4 => ?_))
              obtain ⟨e16_4, h16_4, hG, q16_4⟩ := p16_4
              replace hE := hE.chg e16_4
              replace hB1_0 := hB1_0.chg e16_4 nGB1_0.symm
              refine S_nil ?_
              refine T_tn ?_
              refine wp_seq ?_
              refine W_region ?_
              refine L (D_v (R_move q16) ?_)
              refine L (D_v (R_move rfl) ?_)
              refine L (D_v (R_lssI rfl rfl) ?_)
              refine L (D_v (R_move rfl) ?_)
              refine L (D_g1 rfl rfl (fun hb => R_move rfl) ?_)
              refine L (D_g1 rfl rfl (fun hb => R_move q3) ?_)
              refine L (D_g1 rfl rfl (fun hb => R_lssI (cgE hb) (cgE hb)) ?_)
              refine L (D_v (R_pickA rfl rfl rfl) ?_)
              refine S_nil ?_
              refine T_tn ?_
              refine W_if rfl (fun c7 => ?_) (fun c7 => ?_)
              ·
                obtain ⟨m1, z1⟩ := q16_4
                have r3b := srt_same r3 (g := h16_4) fun k k1 k2 => m1.out k (.inr k1)
                have r4b := srt_same r4 (g := h16_4) fun k k1 k2 => m1.out k (.inr (by omega))
                have hv : ((a + b) / 2) < (((a + b) / 2) + m) - s ∧ (((a + b) / 2) + m) - s < b := by have e := c7; simp only [Bool.and_eq_true, decide_eq_true_eq] at e; omega
                refine W_region ?_
                refine L (D_v (R_loadA (c := [lf, sf]) Try.isAgg145 Try.sizeOf145 hB1_0 q4 rfl rfl) ?_)
                refine L (D_v (R_move q16) ?_)
                refine L (D_v (R_move rfl) ?_)
                refine L (D_v (R_move q3) ?_)
                refine L (D_callS (R_callF Try.call156 rfl rfl) (ih (h16_4) (((a + b) / 2)) (((((a + b) / 2) + m) - s)) (b) _ (by omega) hG (by omega) (by omega) (by omega) r3b r4b) (fun w18_4 p18_4 => ?_))
                obtain ⟨e18_4, h18_4, hG, q18_4⟩ := p18_4
                replace hE := hE.chg e18_4
                replace hB1_0 := hB1_0.chg e18_4 nGB1_0.symm
                refine S_nil ?_
                refine ret0n rfl ⟨rfl, hE, ?_⟩
                obtain ⟨m2, z2⟩ := q18_4
                obtain ⟨ma, za⟩ := merge_end (mid := ((a + b) / 2)) (by omega) m1 m2 z1 z2 rc
                exact ⟨_, hG, hrt.trans ma, za⟩
              ·
                obtain ⟨m1, z1⟩ := q16_4
                have r3b := srt_same r3 (g := h16_4) fun k k1 k2 => m1.out k (.inr k1)
                have r4b := srt_same r4 (g := h16_4) fun k k1 k2 => m1.out k (.inr (by omega))
                have hv : ¬ (((a + b) / 2) < (((a + b) / 2) + m) - s ∧ (((a + b) / 2) + m) - s < b) := by have e := c7; simp only [Bool.and_eq_false_iff, decide_eq_false_iff_not] at e; omega
                have m2 := Mv.refl (h16_4) ((a + b) / 2) b
                have z2 : srt lt (h16_4) ((a + b) / 2) b := (Nat.eq_or_lt_of_le (show ((a + b) / 2) ≤ (((a + b) / 2) + m) - s by omega)).elim (fun e => srt_from r4b e) (fun e => srt_mono r3b (Nat.le_refl _) (by omega))
                refine wp_skip ?_
                refine ret0n rfl ⟨rfl, hE, ?_⟩
                obtain ⟨ma, za⟩ := merge_end (mid := ((a + b) / 2)) (by omega) m1 m2 z1 z2 rc
                exact ⟨_, hG, hrt.trans ma, za⟩
            ·
              have hu : ¬ (a < s ∧ s < ((a + b) / 2)) := by have e := c6; simp only [Bool.and_eq_false_iff, decide_eq_false_iff_not] at e; omega
              have m1 := Mv.refl (rt (f) (s) (m) (((((a + b) / 2) + m) - s))) a ((a + b) / 2)
              have z1 : srt lt (rt (f) (s) (m) (((((a + b) / 2) + m) - s))) a ((a + b) / 2) := (Nat.eq_or_lt_of_le (show a ≤ s by omega)).elim (fun e => srt_from r2 e) (fun e => srt_mono r1 (Nat.le_refl _) (by omega))
              refine wp_skip ?_
              refine T_tn ?_
              refine wp_seq ?_
              refine W_region ?_
              refine L (D_v (R_move q16) ?_)
              refine L (D_v (R_move rfl) ?_)
              refine L (D_v (R_lssI rfl rfl) ?_)
              refine L (D_v (R_move rfl) ?_)
              refine L (D_g1 rfl rfl (fun hb => R_move rfl) ?_)
              refine L (D_g1 rfl rfl (fun hb => R_move q3) ?_)
              refine L (D_g1 rfl rfl (fun hb => R_lssI (cgE hb) (cgE hb)) ?_)
              refine L (D_v (R_pickA rfl rfl rfl) ?_)
              refine S_nil ?_
              refine T_tn ?_
              refine W_if rfl (fun c7 => ?_) (fun c7 => ?_)
              ·
                have r3b := srt_same r3 (g := rt (f) (s) (m) (((((a + b) / 2) + m) - s))) fun k k1 k2 => m1.out k (.inr k1)
                have r4b := srt_same r4 (g := rt (f) (s) (m) (((((a + b) / 2) + m) - s))) fun k k1 k2 => m1.out k (.inr (by omega))
                have hv : ((a + b) / 2) < (((a + b) / 2) + m) - s ∧ (((a + b) / 2) + m) - s < b := by have e := c7; simp only [Bool.and_eq_true, decide_eq_true_eq] at e; omega
                refine W_region ?_
                refine L (D_v (R_loadA (c := [lf, sf]) Try.isAgg145 Try.sizeOf145 hB1_0 q4 rfl rfl) ?_)
                refine L (D_v (R_move q16) ?_)
                refine L (D_v (R_move rfl) ?_)
                refine L (D_v (R_move q3) ?_)
                refine L (D_callS (R_callF Try.call156 rfl rfl) (ih (rt (f) (s) (m) (((((a + b) / 2) + m) - s))) (((a + b) / 2)) (((((a + b) / 2) + m) - s)) (b) _ (by omega) hG (by omega) (by omega) (by omega) r3b r4b) (fun w17_4 p17_4 => ?_))
                obtain ⟨e17_4, h17_4, hG, q17_4⟩ := p17_4
                replace hE := hE.chg e17_4
                replace hB1_0 := hB1_0.chg e17_4 nGB1_0.symm
                refine S_nil ?_
                refine ret0n rfl ⟨rfl, hE, ?_⟩
                obtain ⟨m2, z2⟩ := q17_4
                obtain ⟨ma, za⟩ := merge_end (mid := ((a + b) / 2)) (by omega) m1 m2 z1 z2 rc
                exact ⟨_, hG, hrt.trans ma, za⟩
              ·
                have r3b := srt_same r3 (g := rt (f) (s) (m) (((((a + b) / 2) + m) - s))) fun k k1 k2 => m1.out k (.inr k1)
                have r4b := srt_same r4 (g := rt (f) (s) (m) (((((a + b) / 2) + m) - s))) fun k k1 k2 => m1.out k (.inr (by omega))
                have hv : ¬ (((a + b) / 2) < (((a + b) / 2) + m) - s ∧ (((a + b) / 2) + m) - s < b) := by have e := c7; simp only [Bool.and_eq_false_iff, decide_eq_false_iff_not] at e; omega
                have m2 := Mv.refl (rt (f) (s) (m) (((((a + b) / 2) + m) - s))) ((a + b) / 2) b
                have z2 : srt lt (rt (f) (s) (m) (((((a + b) / 2) + m) - s))) ((a + b) / 2) b := (Nat.eq_or_lt_of_le (show ((a + b) / 2) ≤ (((a + b) / 2) + m) - s by omega)).elim (fun e => srt_from r4b e) (fun e => srt_mono r3b (Nat.le_refl _) (by omega))
                refine wp_skip ?_
                refine ret0n rfl ⟨rfl, hE, ?_⟩
                obtain ⟨ma, za⟩ := merge_end (mid := ((a + b) / 2)) (by omega) m1 m2 z1 z2 rc
                exact ⟨_, hG, hrt.trans ma, za⟩
      ·
        have hc : ¬ ((a + b) / 2) < m := by have e := of_decide_eq_false c3; omega
        refine wp_seq ?_
        refine W_region ?_
        refine L (D_v (R_move rfl) ?_)
        refine L (D_v (R_assign rfl) ?_)
        refine S_nil ?_
        refine T_tn ?_
        refine W_region ?_
        refine L (D_v (R_move rfl) ?_)
        refine L (D_v (R_assign rfl) ?_)
        refine S_nil ?_
        refine T_tn ?_
        refine wp_seq ?_
        refine W_region ?_
        refine L (D_v (R_move rfl) ?_)
        refine L (D_v (R_subN (m := (((a + b) / 2) + m)) (j := 1) rfl rfl (by (try simp only [List.length_take, List.length_drop, List.length_append, List.length_cons, List.length_nil, List.length_replicate, List.length_set, Nm.b_len, be2_len]); omega) (by (try simp only [List.length_take, List.length_drop, List.length_append, List.length_cons, List.length_nil, List.length_replicate, List.length_set, Nm.b_len, be2_len]); omega)) ?_)
        refine L (D_v (R_assign rfl) ?_)
        refine S_nil ?_
        refine T_tn ?_
        refine wp_seq ?_
        refine wp_block ?_
        refine W_loop (fun mz g W => ∃ (s : Nat) (r : Nat), mz = r - s ∧ g 1 = i64 ((a : Nat) : Int) ∧ g 2 = i64 ((m : Nat) : Int) ∧ g 3 = i64 ((b : Nat) : Int) ∧ g 4 = .pointer (some ⟨aB1_0, 0, none⟩) ∧ g 16 = i64 ((((a + b) / 2) : Nat) : Int) ∧ g 17 = i64 (((((a + b) / 2) + m) : Nat) : Int) ∧ g 18 = i64 ((s : Nat) : Int) ∧ g 19 = i64 ((r : Nat) : Int) ∧ g 20 = i64 ((((((a + b) / 2) + m) - 1) : Nat) : Int) ∧ Chg gB w W ∧ S (f) W ∧ Blk W aB1_0 [lf, sf] 145 ∧ a ≤ s ∧ s ≤ r ∧ r ≤ m ∧ ((s = a ∨ lt (f ((((a + b) / 2) + m) - s)) (f (s - 1)) = false)) ∧ ((r = m ∨ lt (f ((((a + b) / 2) + m) - r - 1)) (f r) = true))) ⟨a, m, rfl, rfl, rfl, rfl, rfl, rfl, rfl, rfl, rfl, rfl, hE, hG, hB1_0, (by omega), (by omega), (by omega), (.inl rfl), (.inl rfl)⟩ ?_
        rintro mz f11 w11l ⟨s, r, hm, q1, q2, q3, q4, q16, q17, q18, q19, q20, hE, hG, hB1_0, hs0, hsr, hr0, H1, H2⟩
        refine wp_seq ?_
        refine wp_seq ?_
        refine W_region ?_
        refine L (D_v (R_move q18) ?_)
        refine L (D_v (R_move q19) ?_)
        refine L (D_v (R_lssI rfl rfl) ?_)
        refine S_nil ?_
        refine T_tn ?_
        refine W_if rfl (fun c4 => ?_) (fun c4 => ?_)
        ·
          have ls : s < r := by have e := of_decide_eq_true c4; omega
          refine wp_skip ?_
          refine T_tn ?_
          refine wp_block ?_
          refine wp_seq ?_
          refine W_region ?_
          refine L (D_v (R_move q18) ?_)
          refine L (D_v (R_move q19) ?_)
          refine L (D_v (R_addN (m := s) (j := r) rfl rfl (by (try simp only [List.length_take, List.length_drop, List.length_append, List.length_cons, List.length_nil, List.length_replicate, List.length_set, Nm.b_len, be2_len]); omega)) ?_)
          refine L (D_v (R_cvU (m := (s + r)) Try.runUnderlying3 Try.runUnderlying83 rfl (by (try simp only [List.length_take, List.length_drop, List.length_append, List.length_cons, List.length_nil, List.length_replicate, List.length_set, Nm.b_len, be2_len]); omega)) ?_)
          refine L (D_v (R_shrU (m := (s + r)) rfl rfl) ?_)
          refine L (D_v (R_cvI (m := ((s + r) / 2)) Try.runUnderlying83 Try.runUnderlying3 rfl (by (try simp only [List.length_take, List.length_drop, List.length_append, List.length_cons, List.length_nil, List.length_replicate, List.length_set, Nm.b_len, be2_len]); omega)) ?_)
          refine L (D_v (R_assign rfl) ?_)
          refine S_nil ?_
          refine T_tn ?_
          refine wp_seq ?_
          refine W_region ?_
          refine L (D_v (R_fieldAddr Try.runUnderlying145 rfl Try.sizeOf103 q4) ?_)
          refine L (D_v (R_load Try.isAgg103 hB1_0 rfl rfl) ?_)
          refine L (D_v (R_move q20) ?_)
          refine L (D_v (R_move rfl) ?_)
          refine L (D_v (R_subN (m := ((((a + b) / 2) + m) - 1)) (j := ((s + r) / 2)) rfl rfl (by (try simp only [List.length_take, List.length_drop, List.length_append, List.length_cons, List.length_nil, List.length_replicate, List.length_set, Nm.b_len, be2_len]); omega) (by (try simp only [List.length_take, List.length_drop, List.length_append, List.length_cons, List.length_nil, List.length_replicate, List.length_set, Nm.b_len, be2_len]); omega)) ?_)
          refine L (D_v (R_move rfl) ?_)
          refine L (D_callV rfl (mapv2 rfl rfl) (hR.less _ _ ((((((a + b) / 2) + m) - 1) - ((s + r) / 2))) (((s + r) / 2)) hG (by (try simp only [List.length_take, List.length_drop, List.length_append, List.length_cons, List.length_nil, List.length_replicate, List.length_set, Nm.b_len, be2_len]); omega) (by (try simp only [List.length_take, List.length_drop, List.length_append, List.length_cons, List.length_nil, List.length_replicate, List.length_set, Nm.b_len, be2_len]); omega)) ?_)
          rintro _ w14_6 ⟨rfl, e14_6⟩
          replace hE := hE.trans e14_6
          replace hG := hR.ext _ _ _ hG e14_6
          replace hB1_0 := hB1_0.ext e14_6
          refine L (D_v (R_not rfl) ?_)
          refine S_nil ?_
          refine T_tn ?_
          refine W_if rfl (fun c5 => ?_) (fun c5 => ?_)
          ·
            have hl : lt (f ((((a + b) / 2) + m) - 1 - (s + r) / 2)) (f ((s + r) / 2)) = false := by simpa using c5
            refine W_region ?_
            refine L (D_v (R_move rfl) ?_)
            refine L (D_v (R_addN (m := ((s + r) / 2)) (j := 1) rfl rfl (by (try simp only [List.length_take, List.length_drop, List.length_append, List.length_cons, List.length_nil, List.length_replicate, List.length_set, Nm.b_len, be2_len]); omega)) ?_)
            refine L (D_v (R_assign rfl) ?_)
            refine S_nil ?_
            refine T_bn ?_
            refine T_tn ?_
            refine ⟨_, _, ?_, rfl, _, _, rfl, q1, q2, q3, q4, q16, q17, rfl, q19, q20, hE, hG, hB1_0, ?_, ?_, ?_, ?_, ?_⟩
            all_goals first | omega | exact H1 | exact H2 | (refine .inr ?_; rw [show (((a + b) / 2) + m) - ((s + r) / 2 + 1) = (((a + b) / 2) + m) - 1 - (s + r) / 2 by omega, show (s + r) / 2 + 1 - 1 = (s + r) / 2 by omega]; exact hl) | (refine .inr ?_; rw [show (((a + b) / 2) + m) - (s + r) / 2 - 1 = (((a + b) / 2) + m) - 1 - (s + r) / 2 by omega]; exact hl)
          ·
            have hl : lt (f ((((a + b) / 2) + m) - 1 - (s + r) / 2)) (f ((s + r) / 2)) = true := by simpa using c5
            refine W_region ?_
            refine L (D_v (R_move rfl) ?_)
            refine L (D_v (R_assign rfl) ?_)
            refine S_nil ?_
            refine T_bn ?_
            refine T_tn ?_
            refine ⟨_, _, ?_, rfl, _, _, rfl, q1, q2, q3, q4, q16, q17, q18, rfl, q20, hE, hG, hB1_0, ?_, ?_, ?_, ?_, ?_⟩
            all_goals first | omega | exact H1 | exact H2 | (refine .inr ?_; rw [show (((a + b) / 2) + m) - ((s + r) / 2 + 1) = (((a + b) / 2) + m) - 1 - (s + r) / 2 by omega, show (s + r) / 2 + 1 - 1 = (s + r) / 2 by omega]; exact hl) | (refine .inr ?_; rw [show (((a + b) / 2) + m) - (s + r) / 2 - 1 = (((a + b) / 2) + m) - 1 - (s + r) / 2 by omega]; exact hl)
        ·
          have ls : ¬ s < r := by have e := of_decide_eq_false c4; omega
          obtain rfl : s = r := by omega
          have H1b : s = a ∨ (((a + b) / 2) + m) - s = b ∨ lt (f ((((a + b) / 2) + m) - s)) (f (s - 1)) = false := H1.elim (fun e => by omega) (fun e => .inr (.inr e))
          have H2b : s = m ∨ s = ((a + b) / 2) ∨ lt (f ((((a + b) / 2) + m) - s - 1)) (f s) = true := H2.elim (fun e => by omega) (fun e => .inr (.inr e))
          obtain ⟨r1, r2, r3, r4, rc⟩ := merge_rot (mid := ((a + b) / 2)) hR.ord hs1 hs2 ham hmb rfl (by omega) H1b H2b
          have hrt := (Mv.rt f (a := s) (m := m) (b := (((a + b) / 2) + m) - s) (by omega) (by omega)).mono (a' := a) (b' := b) (by omega) (by omega)
          refine wp_exit ?_
          refine T_te ?_
          refine T_te ?_
          refine T_be ?_
          refine T_tn ?_
          refine wp_seq ?_
          refine W_region ?_
          refine L (D_v (R_move q17) ?_)
          refine L (D_v (R_move q18) ?_)
          refine L (D_v (R_subN (m := (((a + b) / 2) + m)) (j := s) rfl rfl (by (try simp only [List.length_take, List.length_drop, List.length_append, List.length_cons, List.length_nil, List.length_replicate, List.length_set, Nm.b_len, be2_len]); omega) (by (try simp only [List.length_take, List.length_drop, List.length_append, List.length_cons, List.length_nil, List.length_replicate, List.length_set, Nm.b_len, be2_len]); omega)) ?_)
          refine L (D_v (R_assign rfl) ?_)
          refine S_nil ?_
          refine T_tn ?_
          refine wp_seq ?_
          refine wp_seq ?_
          refine W_region ?_
          refine L (D_v (R_move q18) ?_)
          refine L (D_v (R_move q2) ?_)
          refine L (D_v (R_lssI rfl rfl) ?_)
          refine L (D_v (R_move rfl) ?_)
          refine L (D_g1 rfl rfl (fun hb => R_move q2) ?_)
          refine L (D_g1 rfl rfl (fun hb => R_move rfl) ?_)
          refine L (D_g1 rfl rfl (fun hb => R_lssI (cgE hb) (cgE hb)) ?_)
          refine L (D_v (R_pickA rfl rfl rfl) ?_)
          refine S_nil ?_
          refine T_tn ?_
          refine W_if rfl (fun c5 => ?_) (fun c5 => ?_)
          ·
            have hg : s < m ∧ m < (((a + b) / 2) + m) - s := by have e := c5; simp only [Bool.and_eq_true, decide_eq_true_eq] at e; omega
            refine W_region ?_
            refine L (D_v (R_loadA (c := [lf, sf]) Try.isAgg145 Try.sizeOf145 hB1_0 q4 rfl rfl) ?_)
            refine L (D_v (R_move q18) ?_)
            refine L (D_v (R_move q2) ?_)
            refine L (D_v (R_move rfl) ?_)
            refine L (D_callS (R_callF Try.call175 rfl rfl) (c175 hR (f) (s) (m) (((((a + b) / 2) + m) - s)) _ hG (by omega) (by omega) (by omega)) (fun w15_4 p15_4 => ?_))
            obtain ⟨e15_4, hG⟩ := p15_4
            replace hE := hE.chg e15_4
            replace hB1_0 := hB1_0.chg e15_4 nGB1_0.symm
            refine S_nil ?_
            refine T_tn ?_
            refine wp_seq ?_
            refine wp_seq ?_
            refine W_region ?_
            refine L (D_v (R_move q1) ?_)
            refine L (D_v (R_move q18) ?_)
            refine L (D_v (R_lssI rfl rfl) ?_)
            refine L (D_v (R_move rfl) ?_)
            refine L (D_g1 rfl rfl (fun hb => R_move q18) ?_)
            refine L (D_g1 rfl rfl (fun hb => R_move q16) ?_)
            refine L (D_g1 rfl rfl (fun hb => R_lssI (cgE hb) (cgE hb)) ?_)
            refine L (D_v (R_pickA rfl rfl rfl) ?_)
            refine S_nil ?_
            refine T_tn ?_
            refine W_if rfl (fun c6 => ?_) (fun c6 => ?_)
            ·
              have hu : a < s ∧ s < ((a + b) / 2) := by have e := c6; simp only [Bool.and_eq_true, decide_eq_true_eq] at e; omega
              refine W_region ?_
              refine L (D_v (R_loadA (c := [lf, sf]) Try.isAgg145 Try.sizeOf145 hB1_0 q4 rfl rfl) ?_)
              refine L (D_v (R_move q1) ?_)
              refine L (D_v (R_move q18) ?_)
              refine L (D_v (R_move q16) ?_)
              refine L (D_callS (R_callF Try.call156 rfl rfl) (ih (rt (f) (s) (m) (((((a + b) / 2) + m) - s))) (a) (s) (((a + b) / 2)) _ (by omega) hG (by omega) (by omega) (by omega) r1 r2) (fun w17_4 p17_4 => ?_))
              obtain ⟨e17_4, h17_4, hG, q17_4⟩ := p17_4
              replace hE := hE.chg e17_4
              replace hB1_0 := hB1_0.chg e17_4 nGB1_0.symm
              refine S_nil ?_
              refine T_tn ?_
              refine wp_seq ?_
              refine W_region ?_
              refine L (D_v (R_move q16) ?_)
              refine L (D_v (R_move rfl) ?_)
              refine L (D_v (R_lssI rfl rfl) ?_)
              refine L (D_v (R_move rfl) ?_)
              refine L (D_g1 rfl rfl (fun hb => R_move rfl) ?_)
              refine L (D_g1 rfl rfl (fun hb => R_move q3) ?_)
              refine L (D_g1 rfl rfl (fun hb => R_lssI (cgE hb) (cgE hb)) ?_)
              refine L (D_v (R_pickA rfl rfl rfl) ?_)
              refine S_nil ?_
              refine T_tn ?_
              refine W_if rfl (fun c7 => ?_) (fun c7 => ?_)
              ·
                obtain ⟨m1, z1⟩ := q17_4
                have r3b := srt_same r3 (g := h17_4) fun k k1 k2 => m1.out k (.inr k1)
                have r4b := srt_same r4 (g := h17_4) fun k k1 k2 => m1.out k (.inr (by omega))
                have hv : ((a + b) / 2) < (((a + b) / 2) + m) - s ∧ (((a + b) / 2) + m) - s < b := by have e := c7; simp only [Bool.and_eq_true, decide_eq_true_eq] at e; omega
                refine W_region ?_
                refine L (D_v (R_loadA (c := [lf, sf]) Try.isAgg145 Try.sizeOf145 hB1_0 q4 rfl rfl) ?_)
                refine L (D_v (R_move q16) ?_)
                refine L (D_v (R_move rfl) ?_)
                refine L (D_v (R_move q3) ?_)
                refine L (D_callS (R_callF Try.call156 rfl rfl) (ih (h17_4) (((a + b) / 2)) (((((a + b) / 2) + m) - s)) (b) _ (by omega) hG (by omega) (by omega) (by omega) r3b r4b) (fun w19_4 p19_4 => ?_))
                obtain ⟨e19_4, h19_4, hG, q19_4⟩ := p19_4
                replace hE := hE.chg e19_4
                replace hB1_0 := hB1_0.chg e19_4 nGB1_0.symm
                refine S_nil ?_
                refine ret0n rfl ⟨rfl, hE, ?_⟩
                obtain ⟨m2, z2⟩ := q19_4
                obtain ⟨ma, za⟩ := merge_end (mid := ((a + b) / 2)) (by omega) m1 m2 z1 z2 rc
                exact ⟨_, hG, hrt.trans ma, za⟩
              ·
                obtain ⟨m1, z1⟩ := q17_4
                have r3b := srt_same r3 (g := h17_4) fun k k1 k2 => m1.out k (.inr k1)
                have r4b := srt_same r4 (g := h17_4) fun k k1 k2 => m1.out k (.inr (by omega))
                have hv : ¬ (((a + b) / 2) < (((a + b) / 2) + m) - s ∧ (((a + b) / 2) + m) - s < b) := by have e := c7; simp only [Bool.and_eq_false_iff, decide_eq_false_iff_not] at e; omega
                have m2 := Mv.refl (h17_4) ((a + b) / 2) b
                have z2 : srt lt (h17_4) ((a + b) / 2) b := (Nat.eq_or_lt_of_le (show ((a + b) / 2) ≤ (((a + b) / 2) + m) - s by omega)).elim (fun e => srt_from r4b e) (fun e => srt_mono r3b (Nat.le_refl _) (by omega))
                refine wp_skip ?_
                refine ret0n rfl ⟨rfl, hE, ?_⟩
                obtain ⟨ma, za⟩ := merge_end (mid := ((a + b) / 2)) (by omega) m1 m2 z1 z2 rc
                exact ⟨_, hG, hrt.trans ma, za⟩
            ·
              have hu : ¬ (a < s ∧ s < ((a + b) / 2)) := by have e := c6; simp only [Bool.and_eq_false_iff, decide_eq_false_iff_not] at e; omega
              have m1 := Mv.refl (rt (f) (s) (m) (((((a + b) / 2) + m) - s))) a ((a + b) / 2)
              have z1 : srt lt (rt (f) (s) (m) (((((a + b) / 2) + m) - s))) a ((a + b) / 2) := (Nat.eq_or_lt_of_le (show a ≤ s by omega)).elim (fun e => srt_from r2 e) (fun e => srt_mono r1 (Nat.le_refl _) (by omega))
              refine wp_skip ?_
              refine T_tn ?_
              refine wp_seq ?_
              refine W_region ?_
              refine L (D_v (R_move q16) ?_)
              refine L (D_v (R_move rfl) ?_)
              refine L (D_v (R_lssI rfl rfl) ?_)
              refine L (D_v (R_move rfl) ?_)
              refine L (D_g1 rfl rfl (fun hb => R_move rfl) ?_)
              refine L (D_g1 rfl rfl (fun hb => R_move q3) ?_)
              refine L (D_g1 rfl rfl (fun hb => R_lssI (cgE hb) (cgE hb)) ?_)
              refine L (D_v (R_pickA rfl rfl rfl) ?_)
              refine S_nil ?_
              refine T_tn ?_
              refine W_if rfl (fun c7 => ?_) (fun c7 => ?_)
              ·
                have r3b := srt_same r3 (g := rt (f) (s) (m) (((((a + b) / 2) + m) - s))) fun k k1 k2 => m1.out k (.inr k1)
                have r4b := srt_same r4 (g := rt (f) (s) (m) (((((a + b) / 2) + m) - s))) fun k k1 k2 => m1.out k (.inr (by omega))
                have hv : ((a + b) / 2) < (((a + b) / 2) + m) - s ∧ (((a + b) / 2) + m) - s < b := by have e := c7; simp only [Bool.and_eq_true, decide_eq_true_eq] at e; omega
                refine W_region ?_
                refine L (D_v (R_loadA (c := [lf, sf]) Try.isAgg145 Try.sizeOf145 hB1_0 q4 rfl rfl) ?_)
                refine L (D_v (R_move q16) ?_)
                refine L (D_v (R_move rfl) ?_)
                refine L (D_v (R_move q3) ?_)
                refine L (D_callS (R_callF Try.call156 rfl rfl) (ih (rt (f) (s) (m) (((((a + b) / 2) + m) - s))) (((a + b) / 2)) (((((a + b) / 2) + m) - s)) (b) _ (by omega) hG (by omega) (by omega) (by omega) r3b r4b) (fun w18_4 p18_4 => ?_))
                obtain ⟨e18_4, h18_4, hG, q18_4⟩ := p18_4
                replace hE := hE.chg e18_4
                replace hB1_0 := hB1_0.chg e18_4 nGB1_0.symm
                refine S_nil ?_
                refine ret0n rfl ⟨rfl, hE, ?_⟩
                obtain ⟨m2, z2⟩ := q18_4
                obtain ⟨ma, za⟩ := merge_end (mid := ((a + b) / 2)) (by omega) m1 m2 z1 z2 rc
                exact ⟨_, hG, hrt.trans ma, za⟩
              ·
                have r3b := srt_same r3 (g := rt (f) (s) (m) (((((a + b) / 2) + m) - s))) fun k k1 k2 => m1.out k (.inr k1)
                have r4b := srt_same r4 (g := rt (f) (s) (m) (((((a + b) / 2) + m) - s))) fun k k1 k2 => m1.out k (.inr (by omega))
                have hv : ¬ (((a + b) / 2) < (((a + b) / 2) + m) - s ∧ (((a + b) / 2) + m) - s < b) := by have e := c7; simp only [Bool.and_eq_false_iff, decide_eq_false_iff_not] at e; omega
                have m2 := Mv.refl (rt (f) (s) (m) (((((a + b) / 2) + m) - s))) ((a + b) / 2) b
                have z2 : srt lt (rt (f) (s) (m) (((((a + b) / 2) + m) - s))) ((a + b) / 2) b := (Nat.eq_or_lt_of_le (show ((a + b) / 2) ≤ (((a + b) / 2) + m) - s by omega)).elim (fun e => srt_from r4b e) (fun e => srt_mono r3b (Nat.le_refl _) (by omega))
                refine wp_skip ?_
                refine ret0n rfl ⟨rfl, hE, ?_⟩
                obtain ⟨ma, za⟩ := merge_end (mid := ((a + b) / 2)) (by omega) m1 m2 z1 z2 rc
                exact ⟨_, hG, hrt.trans ma, za⟩
          ·
            have hg : ¬ (s < m ∧ m < (((a + b) / 2) + m) - s) := by have e := c5; simp only [Bool.and_eq_false_iff, decide_eq_false_iff_not] at e; omega
            rw [← rt_id f (a := s) (m := m) (b := (((a + b) / 2) + m) - s) (by omega) (by omega)] at hG
            refine wp_skip ?_
            refine T_tn ?_
            refine wp_seq ?_
            refine wp_seq ?_
            refine W_region ?_
            refine L (D_v (R_move q1) ?_)
            refine L (D_v (R_move q18) ?_)
            refine L (D_v (R_lssI rfl rfl) ?_)
            refine L (D_v (R_move rfl) ?_)
            refine L (D_g1 rfl rfl (fun hb => R_move q18) ?_)
            refine L (D_g1 rfl rfl (fun hb => R_move q16) ?_)
            refine L (D_g1 rfl rfl (fun hb => R_lssI (cgE hb) (cgE hb)) ?_)
            refine L (D_v (R_pickA rfl rfl rfl) ?_)
            refine S_nil ?_
            refine T_tn ?_
            refine W_if rfl (fun c6 => ?_) (fun c6 => ?_)
            ·
              have hu : a < s ∧ s < ((a + b) / 2) := by have e := c6; simp only [Bool.and_eq_true, decide_eq_true_eq] at e; omega
              refine W_region ?_
              refine L (D_v (R_loadA (c := [lf, sf]) Try.isAgg145 Try.sizeOf145 hB1_0 q4 rfl rfl) ?_)
              refine L (D_v (R_move q1) ?_)
              refine L (D_v (R_move q18) ?_)
              refine L (D_v (R_move q16) ?_)
              refine L (D_callS (R_callF Try.call156 rfl rfl) (ih (rt (f) (s) (m) (((((a + b) / 2) + m) - s))) (a) (s) (((a + b) / 2)) _ (by omega) hG (by omega) (by omega) (by omega) r1 r2) (fun w16_4 p16_4 => ?_))
              obtain ⟨e16_4, h16_4, hG, q16_4⟩ := p16_4
              replace hE := hE.chg e16_4
              replace hB1_0 := hB1_0.chg e16_4 nGB1_0.symm
              refine S_nil ?_
              refine T_tn ?_
              refine wp_seq ?_
              refine W_region ?_
              refine L (D_v (R_move q16) ?_)
              refine L (D_v (R_move rfl) ?_)
              refine L (D_v (R_lssI rfl rfl) ?_)
              refine L (D_v (R_move rfl) ?_)
              refine L (D_g1 rfl rfl (fun hb => R_move rfl) ?_)
              refine L (D_g1 rfl rfl (fun hb => R_move q3) ?_)
              refine L (D_g1 rfl rfl (fun hb => R_lssI (cgE hb) (cgE hb)) ?_)
              refine L (D_v (R_pickA rfl rfl rfl) ?_)
              refine S_nil ?_
              refine T_tn ?_
              refine W_if rfl (fun c7 => ?_) (fun c7 => ?_)
              ·
                obtain ⟨m1, z1⟩ := q16_4
                have r3b := srt_same r3 (g := h16_4) fun k k1 k2 => m1.out k (.inr k1)
                have r4b := srt_same r4 (g := h16_4) fun k k1 k2 => m1.out k (.inr (by omega))
                have hv : ((a + b) / 2) < (((a + b) / 2) + m) - s ∧ (((a + b) / 2) + m) - s < b := by have e := c7; simp only [Bool.and_eq_true, decide_eq_true_eq] at e; omega
                refine W_region ?_
                refine L (D_v (R_loadA (c := [lf, sf]) Try.isAgg145 Try.sizeOf145 hB1_0 q4 rfl rfl) ?_)
                refine L (D_v (R_move q16) ?_)
                refine L (D_v (R_move rfl) ?_)
                refine L (D_v (R_move q3) ?_)
                refine L (D_callS (R_callF Try.call156 rfl rfl) (ih (h16_4) (((a + b) / 2)) (((((a + b) / 2) + m) - s)) (b) _ (by omega) hG (by omega) (by omega) (by omega) r3b r4b) (fun w18_4 p18_4 => ?_))
                obtain ⟨e18_4, h18_4, hG, q18_4⟩ := p18_4
                replace hE := hE.chg e18_4
                replace hB1_0 := hB1_0.chg e18_4 nGB1_0.symm
                refine S_nil ?_
                refine ret0n rfl ⟨rfl, hE, ?_⟩
                obtain ⟨m2, z2⟩ := q18_4
                obtain ⟨ma, za⟩ := merge_end (mid := ((a + b) / 2)) (by omega) m1 m2 z1 z2 rc
                exact ⟨_, hG, hrt.trans ma, za⟩
              ·
                obtain ⟨m1, z1⟩ := q16_4
                have r3b := srt_same r3 (g := h16_4) fun k k1 k2 => m1.out k (.inr k1)
                have r4b := srt_same r4 (g := h16_4) fun k k1 k2 => m1.out k (.inr (by omega))
                have hv : ¬ (((a + b) / 2) < (((a + b) / 2) + m) - s ∧ (((a + b) / 2) + m) - s < b) := by have e := c7; simp only [Bool.and_eq_false_iff, decide_eq_false_iff_not] at e; omega
                have m2 := Mv.refl (h16_4) ((a + b) / 2) b
                have z2 : srt lt (h16_4) ((a + b) / 2) b := (Nat.eq_or_lt_of_le (show ((a + b) / 2) ≤ (((a + b) / 2) + m) - s by omega)).elim (fun e => srt_from r4b e) (fun e => srt_mono r3b (Nat.le_refl _) (by omega))
                refine wp_skip ?_
                refine ret0n rfl ⟨rfl, hE, ?_⟩
                obtain ⟨ma, za⟩ := merge_end (mid := ((a + b) / 2)) (by omega) m1 m2 z1 z2 rc
                exact ⟨_, hG, hrt.trans ma, za⟩
            ·
              have hu : ¬ (a < s ∧ s < ((a + b) / 2)) := by have e := c6; simp only [Bool.and_eq_false_iff, decide_eq_false_iff_not] at e; omega
              have m1 := Mv.refl (rt (f) (s) (m) (((((a + b) / 2) + m) - s))) a ((a + b) / 2)
              have z1 : srt lt (rt (f) (s) (m) (((((a + b) / 2) + m) - s))) a ((a + b) / 2) := (Nat.eq_or_lt_of_le (show a ≤ s by omega)).elim (fun e => srt_from r2 e) (fun e => srt_mono r1 (Nat.le_refl _) (by omega))
              refine wp_skip ?_
              refine T_tn ?_
              refine wp_seq ?_
              refine W_region ?_
              refine L (D_v (R_move q16) ?_)
              refine L (D_v (R_move rfl) ?_)
              refine L (D_v (R_lssI rfl rfl) ?_)
              refine L (D_v (R_move rfl) ?_)
              refine L (D_g1 rfl rfl (fun hb => R_move rfl) ?_)
              refine L (D_g1 rfl rfl (fun hb => R_move q3) ?_)
              refine L (D_g1 rfl rfl (fun hb => R_lssI (cgE hb) (cgE hb)) ?_)
              refine L (D_v (R_pickA rfl rfl rfl) ?_)
              refine S_nil ?_
              refine T_tn ?_
              refine W_if rfl (fun c7 => ?_) (fun c7 => ?_)
              ·
                have r3b := srt_same r3 (g := rt (f) (s) (m) (((((a + b) / 2) + m) - s))) fun k k1 k2 => m1.out k (.inr k1)
                have r4b := srt_same r4 (g := rt (f) (s) (m) (((((a + b) / 2) + m) - s))) fun k k1 k2 => m1.out k (.inr (by omega))
                have hv : ((a + b) / 2) < (((a + b) / 2) + m) - s ∧ (((a + b) / 2) + m) - s < b := by have e := c7; simp only [Bool.and_eq_true, decide_eq_true_eq] at e; omega
                refine W_region ?_
                refine L (D_v (R_loadA (c := [lf, sf]) Try.isAgg145 Try.sizeOf145 hB1_0 q4 rfl rfl) ?_)
                refine L (D_v (R_move q16) ?_)
                refine L (D_v (R_move rfl) ?_)
                refine L (D_v (R_move q3) ?_)
                refine L (D_callS (R_callF Try.call156 rfl rfl) (ih (rt (f) (s) (m) (((((a + b) / 2) + m) - s))) (((a + b) / 2)) (((((a + b) / 2) + m) - s)) (b) _ (by omega) hG (by omega) (by omega) (by omega) r3b r4b) (fun w17_4 p17_4 => ?_))
                obtain ⟨e17_4, h17_4, hG, q17_4⟩ := p17_4
                replace hE := hE.chg e17_4
                replace hB1_0 := hB1_0.chg e17_4 nGB1_0.symm
                refine S_nil ?_
                refine ret0n rfl ⟨rfl, hE, ?_⟩
                obtain ⟨m2, z2⟩ := q17_4
                obtain ⟨ma, za⟩ := merge_end (mid := ((a + b) / 2)) (by omega) m1 m2 z1 z2 rc
                exact ⟨_, hG, hrt.trans ma, za⟩
              ·
                have r3b := srt_same r3 (g := rt (f) (s) (m) (((((a + b) / 2) + m) - s))) fun k k1 k2 => m1.out k (.inr k1)
                have r4b := srt_same r4 (g := rt (f) (s) (m) (((((a + b) / 2) + m) - s))) fun k k1 k2 => m1.out k (.inr (by omega))
                have hv : ¬ (((a + b) / 2) < (((a + b) / 2) + m) - s ∧ (((a + b) / 2) + m) - s < b) := by have e := c7; simp only [Bool.and_eq_false_iff, decide_eq_false_iff_not] at e; omega
                have m2 := Mv.refl (rt (f) (s) (m) (((((a + b) / 2) + m) - s))) ((a + b) / 2) b
                have z2 : srt lt (rt (f) (s) (m) (((((a + b) / 2) + m) - s))) ((a + b) / 2) b := (Nat.eq_or_lt_of_le (show ((a + b) / 2) ≤ (((a + b) / 2) + m) - s by omega)).elim (fun e => srt_from r4b e) (fun e => srt_mono r3b (Nat.le_refl _) (by omega))
                refine wp_skip ?_
                refine ret0n rfl ⟨rfl, hE, ?_⟩
                obtain ⟨ma, za⟩ := merge_end (mid := ((a + b) / 2)) (by omega) m1 m2 z1 z2 rc
                exact ⟨_, hG, hrt.trans ma, za⟩

theorem c156 {α : Type} {S : (Nat → α) → World → Prop} {gB n : Nat} {lf sf : Value} {lt : α → α → Bool} (hR : Srt Try.prog S gB n lf sf lt) (N : Nat) : ∀ (f : Nat → α) (a m b : Nat) (w : World), b - a ≤ N → S f w → a < m → m < b → b ≤ n → srt lt f a m → srt lt f m b → Calls Try.prog 156 [.agg #[lf, sf], i64 ((a : Nat) : Int), i64 ((m : Nat) : Int), i64 ((b : Nat) : Int)].toArray w (RetS gB w fun w2 => ∃ f', S f' w2 ∧ Mv f f' a b ∧ srt lt f' a b) := by
  induction N with
  | zero => intro f a m b w h1 h2 h3 h4; omega
  | succ N ih => exact fun f a m b w h1 h2 h3 h4 h5 h6 h7 => c156s hR f N ih a m b w h2 h1 h3 h4 h5 h6 h7

-- sort.stable_func
set_option maxRecDepth 4000 in
set_option maxHeartbeats 8000000 in
theorem c126 {α : Type} {S : (Nat → α) → World → Prop} {gB n : Nat} {lf sf : Value} {lt : α → α → Bool} (hR : Srt Try.prog S gB n lf sf lt) (f : Nat → α)  (w : World) (hG : S f w) : Calls Try.prog 126 [.agg #[lf, sf], i64 ((n : Nat) : Int)].toArray w (RetS gB w fun w2 => ∃ f', S f' w2 ∧ Mv f f' 0 n ∧ srt lt f' 0 n) := by
  refine enter Try.func126 Try.ntmps126 rfl rfl ?_
  have hE := Chg.refl gB w
  have hnb := hR.nb
  have hlp := hR.lp
  have hsp := hR.sp
  refine wp_seq ?_
  refine W_region ?_
  refine L (D_box (c := [lf, sf]) (rfl) (fun aB1_0 w1_0 e1_0 gB1_0 hB1_0 => ?_))
  have lB1_0 := Nat.le_trans hE.size gB1_0
  have nGB1_0 := Nat.ne_of_lt (Nat.lt_of_lt_of_le (hR.bound _ _ hG) gB1_0)
  replace hE := hE.trans e1_0
  replace hG := hR.ext _ _ _ hG e1_0
  refine S_nil ?_
  refine T_tn ?_
  refine wp_seq ?_
  refine W_region ?_
  refine L (D_v (R_assign rfl) ?_)
  refine S_nil ?_
  refine T_tn ?_
  refine wp_seq ?_
  refine W_region ?_
  refine L (D_v (R_move rfl) ?_)
  refine L (D_v (R_assign rfl) ?_)
  refine L (D_v (R_assign rfl) ?_)
  refine S_nil ?_
  refine T_tn ?_
  refine wp_seq ?_
  refine wp_block ?_
  refine W_loop (fun mz g W => ∃ (a : Nat) (h : Nat → α), mz = n - a ∧ g 1 = i64 ((n : Nat) : Int) ∧ g 2 = .pointer (some ⟨aB1_0, 0, none⟩) ∧ g 4 = i64 (20) ∧ g 5 = i64 ((a : Nat) : Int) ∧ g 6 = i64 ((a + 20 : Nat) : Int) ∧ Chg gB w W ∧ S (h) W ∧ Blk W aB1_0 [lf, sf] 145 ∧ a ≤ n ∧ 20 ∣ a ∧ Mv f h 0 n ∧ don lt h a 20) ⟨0, f, rfl, rfl, rfl, rfl, rfl, rfl, hE, hG, hB1_0, (Nat.zero_le _), (by decide), (Mv.refl _ _ _), (don_start _ (by decide))⟩ ?_
  rintro mz f4 w4l ⟨a, h, hm, q1, q2, q4, q5, q6, hE, hG, hB1_0, han, hda, hmv, hdo⟩
  refine wp_seq ?_
  refine wp_seq ?_
  refine W_region ?_
  refine L (D_v (R_move q6) ?_)
  refine L (D_v (R_move q1) ?_)
  refine L (D_v (R_leqI rfl rfl) ?_)
  refine S_nil ?_
  refine T_tn ?_
  refine W_if rfl (fun c1 => ?_) (fun c1 => ?_)
  ·
    have l1 : a + 20 ≤ n := by have e := of_decide_eq_true c1; omega
    refine wp_skip ?_
    refine T_tn ?_
    refine wp_block ?_
    refine wp_seq ?_
    refine W_region ?_
    refine L (D_v (R_loadA (c := [lf, sf]) Try.isAgg145 Try.sizeOf145 hB1_0 q2 rfl rfl) ?_)
    refine L (D_v (R_move q5) ?_)
    refine L (D_v (R_move q6) ?_)
    refine L (D_callS (R_callF Try.call155 rfl rfl) (c155 hR (h) (a) ((a + 20)) _ hG (by omega) (by omega)) (fun w6_3 p6_3 => ?_))
    obtain ⟨e6_3, h6_3, hG, q6_3⟩ := p6_3
    replace hE := hE.chg e6_3
    replace hB1_0 := hB1_0.chg e6_3 nGB1_0.symm
    refine S_nil ?_
    refine T_tn ?_
    refine wp_seq ?_
    refine W_region ?_
    refine L (D_v (R_move q6) ?_)
    refine L (D_v (R_assign rfl) ?_)
    refine S_nil ?_
    refine T_tn ?_
    refine W_region ?_
    refine L (D_v (R_move q6) ?_)
    refine L (D_v (R_move q4) ?_)
    refine L (D_v (R_addN (m := (a + 20)) (j := 20) rfl rfl (by (try simp only [List.length_take, List.length_drop, List.length_append, List.length_cons, List.length_nil, List.length_replicate, List.length_set, Nm.b_len, be2_len]); omega)) ?_)
    refine L (D_v (R_assign rfl) ?_)
    refine S_nil ?_
    refine T_bn ?_
    refine T_tn ?_
    have z1q := q6_3
    refine ⟨_, _, ?_, rfl, _, _, rfl, q1, q2, q4, rfl, rfl, hE, hG, hB1_0, ?_, ?_, ?_, ?_⟩
    all_goals first | omega | exact hmv.trans (z1q.1.mono (by omega) (by omega)) | exact don_step hdo z1q.1 z1q.2 hda
  ·
    have l1 : ¬ a + 20 ≤ n := by have e := of_decide_eq_false c1; omega
    refine wp_exit ?_
    refine T_te ?_
    refine T_te ?_
    refine T_be ?_
    refine T_tn ?_
    refine wp_seq ?_
    refine W_region ?_
    refine L (D_v (R_loadA (c := [lf, sf]) Try.isAgg145 Try.sizeOf145 hB1_0 q2 rfl rfl) ?_)
    refine L (D_v (R_move q5) ?_)
    refine L (D_v (R_move q1) ?_)
    refine L (D_callS (R_callF Try.call155 rfl rfl) (c155 hR (h) (a) (n) _ hG (by omega) (by omega)) (fun w6_3 p6_3 => ?_))
    obtain ⟨e6_3, h6_3, hG, q6_3⟩ := p6_3
    replace hE := hE.chg e6_3
    replace hB1_0 := hB1_0.chg e6_3 nGB1_0.symm
    refine S_nil ?_
    refine T_tn ?_
    refine wp_block ?_
    have z1q := q6_3
    have hmv2 := hmv.trans (z1q.1.mono (Nat.zero_le _) (Nat.le_refl _))
    have hbk := bks_end hdo z1q.1 z1q.2 hda han (by omega)
    refine W_loop (fun mz g W => ∃ (d : Nat) (h : Nat → α), mz = n - d ∧ g 1 = i64 ((n : Nat) : Int) ∧ g 2 = .pointer (some ⟨aB1_0, 0, none⟩) ∧ g 4 = i64 ((d : Nat) : Int) ∧ Chg gB w W ∧ S (h) W ∧ Blk W aB1_0 [lf, sf] 145 ∧ 20 ≤ d ∧ d ≤ 2000000 ∧ Mv f h 0 n ∧ bks lt h d n) ⟨_, _, rfl, q1, q2, q4, hE, hG, hB1_0, (Nat.le_refl _), (by decide), hmv2, hbk⟩ ?_
    rintro mz f7 w7l ⟨d, h, hm, q1, q2, q4, hE, hG, hB1_0, hd, hdb, hmv, hbk⟩
    refine wp_seq ?_
    refine wp_seq ?_
    refine W_region ?_
    refine L (D_v (R_move q4) ?_)
    refine L (D_v (R_move q1) ?_)
    refine L (D_v (R_lssI rfl rfl) ?_)
    refine S_nil ?_
    refine T_tn ?_
    refine W_if rfl (fun c2 => ?_) (fun c2 => ?_)
    ·
      have l2 : d < n := by have e := of_decide_eq_true c2; omega
      refine wp_skip ?_
      refine T_tn ?_
      refine wp_block ?_
      refine wp_seq ?_
      refine W_region ?_
      refine L (D_v (R_move q4) ?_)
      refine L (D_v (R_mulN (m := 2) (j := d) rfl rfl (by (try simp only [List.length_take, List.length_drop, List.length_append, List.length_cons, List.length_nil, List.length_replicate, List.length_set, Nm.b_len, be2_len]); omega)) ?_)
      refine L (D_v (R_assign rfl) ?_)
      refine L (D_v (R_assign rfl) ?_)
      refine S_nil ?_
      refine T_tn ?_
      refine wp_seq ?_
      refine wp_block ?_
      refine W_loop (fun mz g W => ∃ (a : Nat) (h2 : Nat → α), mz = n - a ∧ g 1 = i64 ((n : Nat) : Int) ∧ g 2 = .pointer (some ⟨aB1_0, 0, none⟩) ∧ g 4 = i64 ((d : Nat) : Int) ∧ g 5 = i64 ((a : Nat) : Int) ∧ g 6 = i64 ((a + 2 * d : Nat) : Int) ∧ Chg gB w W ∧ S (h2) W ∧ Blk W aB1_0 [lf, sf] 145 ∧ a ≤ n ∧ 2 * d ∣ a ∧ Mv f h2 0 n ∧ don lt h2 a (2 * d) ∧ rst lt h2 a d n) ⟨0, _, rfl, q1, q2, q4, rfl, (congrArg (fun z : Nat => i64 (z : Int)) (by omega)), hE, hG, hB1_0, (Nat.zero_le _), (Nat.dvd_zero _), hmv, (don_start _ (by omega)), (rst_start hbk)⟩ ?_
      rintro mz f10 w10l ⟨a, h2, hm, q1, q2, q4, q5, q6, hE, hG, hB1_0, han, hda, hm2, hdo, hrs⟩
      refine wp_seq ?_
      refine wp_seq ?_
      refine W_region ?_
      refine L (D_v (R_move q6) ?_)
      refine L (D_v (R_move q1) ?_)
      refine L (D_v (R_leqI rfl rfl) ?_)
      refine S_nil ?_
      refine T_tn ?_
      refine W_if rfl (fun c3 => ?_) (fun c3 => ?_)
      ·
        have l3 : a + 2 * d ≤ n := by have e := of_decide_eq_true c3; omega
        have p1 : srt lt h2 a (a + d) := srt_to (hrs a (dv_two hda) (Nat.le_refl _)) (by omega)
        have p2 : srt lt h2 (a + d) (a + 2 * d) := srt_to (hrs (a + d) (dv_add (dv_two hda)) (by omega)) (by omega)
        refine wp_skip ?_
        refine T_tn ?_
        refine wp_block ?_
        refine wp_seq ?_
        refine W_region ?_
        refine L (D_v (R_loadA (c := [lf, sf]) Try.isAgg145 Try.sizeOf145 hB1_0 q2 rfl rfl) ?_)
        refine L (D_v (R_move q5) ?_)
        refine L (D_v (R_move q5) ?_)
        refine L (D_v (R_move q4) ?_)
        refine L (D_v (R_addN (m := a) (j := d) rfl rfl (by (try simp only [List.length_take, List.length_drop, List.length_append, List.length_cons, List.length_nil, List.length_replicate, List.length_set, Nm.b_len, be2_len]); omega)) ?_)
        refine L (D_v (R_move q6) ?_)
        refine L (D_callS (R_callF Try.call156 rfl rfl) (c156 hR ((a + 2 * d) - (a)) (h2) (a) ((a + d)) ((a + 2 * d)) _ (Nat.le_refl _) hG (by omega) (by omega) (by omega) p1 p2) (fun w12_6 p12_6 => ?_))
        obtain ⟨e12_6, h12_6, hG, q12_6⟩ := p12_6
        replace hE := hE.chg e12_6
        replace hB1_0 := hB1_0.chg e12_6 nGB1_0.symm
        refine S_nil ?_
        refine T_tn ?_
        refine wp_seq ?_
        refine W_region ?_
        refine L (D_v (R_move q6) ?_)
        refine L (D_v (R_assign rfl) ?_)
        refine S_nil ?_
        refine T_tn ?_
        refine W_region ?_
        refine L (D_v (R_move q6) ?_)
        refine L (D_v (R_move q4) ?_)
        refine L (D_v (R_mulN (m := 2) (j := d) rfl rfl (by (try simp only [List.length_take, List.length_drop, List.length_append, List.length_cons, List.length_nil, List.length_replicate, List.length_set, Nm.b_len, be2_len]); omega)) ?_)
        refine L (D_v (R_addN (m := (a + 2 * d)) (j := (2 * d)) rfl rfl (by (try simp only [List.length_take, List.length_drop, List.length_append, List.length_cons, List.length_nil, List.length_replicate, List.length_set, Nm.b_len, be2_len]); omega)) ?_)
        refine L (D_v (R_assign rfl) ?_)
        refine S_nil ?_
        refine T_bn ?_
        refine T_tn ?_
        have z2q := q12_6
        refine ⟨_, _, ?_, rfl, _, _, rfl, q1, q2, q4, rfl, ?_, hE, hG, hB1_0, ?_, ?_, ?_, ?_, ?_⟩
        all_goals first | omega | exact Nat.dvd_add hda (Nat.dvd_refl _) | exact hm2.trans (z2q.1.mono (by omega) (by omega)) | exact don_step hdo z2q.1 z2q.2 hda | exact rst_step hrs z2q.1 (by omega) | exact congrArg (fun z : Nat => i64 (z : Int)) (by omega)
      ·
        have l3 : ¬ a + 2 * d ≤ n := by have e := of_decide_eq_false c3; omega
        refine wp_exit ?_
        refine T_te ?_
        refine T_te ?_
        refine T_be ?_
        refine T_tn ?_
        refine wp_seq ?_
        refine wp_seq ?_
        refine W_region ?_
        refine L (D_v (R_move q5) ?_)
        refine L (D_v (R_move q4) ?_)
        refine L (D_v (R_addN (m := a) (j := d) rfl rfl (by (try simp only [List.length_take, List.length_drop, List.length_append, List.length_cons, List.length_nil, List.length_replicate, List.length_set, Nm.b_len, be2_len]); omega)) ?_)
        refine L (D_v (R_assign rfl) ?_)
        refine S_nil ?_
        refine T_tn ?_
        refine wp_seq ?_
        refine W_region ?_
        refine L (D_v (R_move rfl) ?_)
        refine L (D_v (R_move q1) ?_)
        refine L (D_v (R_lssI rfl rfl) ?_)
        refine S_nil ?_
        refine T_tn ?_
        refine W_if rfl (fun c4 => ?_) (fun c4 => ?_)
        ·
          have l4 : a + d < n := by have e := of_decide_eq_true c4; omega
          have p1 : srt lt h2 a (a + d) := srt_to (hrs a (dv_two hda) (Nat.le_refl _)) (by omega)
          have p2 : srt lt h2 (a + d) n := srt_to (hrs (a + d) (dv_add (dv_two hda)) (by omega)) (by omega)
          refine W_region ?_
          refine L (D_v (R_loadA (c := [lf, sf]) Try.isAgg145 Try.sizeOf145 hB1_0 q2 rfl rfl) ?_)
          refine L (D_v (R_move q5) ?_)
          refine L (D_v (R_move rfl) ?_)
          refine L (D_v (R_move q1) ?_)
          refine L (D_callS (R_callF Try.call156 rfl rfl) (c156 hR (n - (a)) (h2) (a) ((a + d)) (n) _ (Nat.le_refl _) hG (by omega) (by omega) (by omega) p1 p2) (fun w14_4 p14_4 => ?_))
          obtain ⟨e14_4, h14_4, hG, q14_4⟩ := p14_4
          replace hE := hE.chg e14_4
          replace hB1_0 := hB1_0.chg e14_4 nGB1_0.symm
          refine S_nil ?_
          refine T_tn ?_
          refine W_region ?_
          refine L (D_v (R_move q4) ?_)
          refine L (D_v (R_mulN (m := d) (j := 2) rfl rfl (by (try simp only [List.length_take, List.length_drop, List.length_append, List.length_cons, List.length_nil, List.length_replicate, List.length_set, Nm.b_len, be2_len]); omega)) ?_)
          refine L (D_v (R_assign rfl) ?_)
          refine S_nil ?_
          refine T_bn ?_
          refine T_tn ?_
          have z3q := q14_4
          have hmv3 := hm2.trans (z3q.1.mono (Nat.zero_le _) (Nat.le_refl _))
          have hbk3 := bks_end hdo z3q.1 z3q.2 hda han (by omega)
          refine ⟨_, _, ?_, rfl, _, _, rfl, q1, q2, rfl, hE, hG, hB1_0, ?_, ?_, ?_, ?_⟩
          all_goals first | omega | exact hmv3 | (rw [Nat.mul_comm]; exact hbk3)
        ·
          have l4 : ¬ a + d < n := by have e := of_decide_eq_false c4; omega
          have p1 : srt lt h2 a n := srt_to (hrs a (dv_two hda) (Nat.le_refl _)) (by omega)
          have hmv3 := hm2
          have hbk3 := bks_end hdo (Mv.refl _ _ _) p1 hda han (by omega)
          refine wp_skip ?_
          refine T_tn ?_
          refine W_region ?_
          refine L (D_v (R_move q4) ?_)
          refine L (D_v (R_mulN (m := d) (j := 2) rfl rfl (by (try simp only [List.length_take, List.length_drop, List.length_append, List.length_cons, List.length_nil, List.length_replicate, List.length_set, Nm.b_len, be2_len]); omega)) ?_)
          refine L (D_v (R_assign rfl) ?_)
          refine S_nil ?_
          refine T_bn ?_
          refine T_tn ?_
          refine ⟨_, _, ?_, rfl, _, _, rfl, q1, q2, rfl, hE, hG, hB1_0, ?_, ?_, ?_, ?_⟩
          all_goals first | omega | exact hmv3 | (rw [Nat.mul_comm]; exact hbk3)
    ·
      have l2 : ¬ d < n := by have e := of_decide_eq_false c2; omega
      refine wp_exit ?_
      refine T_te ?_
      refine T_te ?_
      refine T_be ?_
      refine ret0n rfl ⟨rfl, hE, ?_⟩
      have hz := hbk 0 (Nat.dvd_zero _)
      rw [Nat.min_eq_right (by omega)] at hz
      exact ⟨_, hG, hmv, hz⟩
end Go.Proofs.Yteeopgpgbdhmhaa
