/- What the law needs, part 3. No condition. -/
import Derived.Test.YteeopgpgbdhmhaaGreatFnd2
namespace Go.Proofs.YteeopgpgbdhmhaaGreat
open Go.RowKit
set_option linter.unusedVariables false
set_option linter.unusedSimpArgs false
attribute [local irreducible] wpList wpO H wpQuiet wpStill Code.wp Exit.then Exit.inBlock bodyPost Code.rounds Calls
set_option maxRecDepth 4000 in
set_option maxHeartbeats 2000000 in
theorem c186 {α : Type} {S : (Nat → α) → World → Prop} {gB n : Nat} {lf sf : Value} {lt : α → α → Bool} (hR : Srt Tryz.prog S gB n lf sf lt) (f : Nat → α) (a b k : Nat) (w : World) (hG : S f w) (hab : a + k ≤ b) (hb : b + k ≤ n) : Calls Tryz.prog 141 [.agg #[lf, sf], i64 ((a : Nat) : Int), i64 ((b : Nat) : Int), i64 ((k : Nat) : Int)].toArray w (RetS gB w fun w2 => S (sr f a b k) w2) := by
  refine enter Tryz.func141 Tryz.ntmps141 rfl rfl ?_
  have hE := Chg.refl gB w
  have hnb := hR.nb
  have hlp := hR.lp
  have hsp := hR.sp
  have hG : S (sr f a b 0) w := by rw [sr_zero]; exact hG
  refine wp_seq ?_
  refine W_region ?_
  refine L (D_box (c := [lf, sf]) (rfl) (fun aB1_0 w1_0 e1_0 gB1_0 hB1_0 => ?_))
  have lB1_0 := Nat.le_trans hE.size gB1_0
  have nGB1_0 := Nat.ne_of_lt (Nat.lt_of_lt_of_le (hR.bound _ _ hG) gB1_0)
  replace hE := hE.trans e1_0
  replace hG := hR.ext _ _ _ hG e1_0
  refine S_nil ?_
  refine T_tn ?_
  refine wp_seq ?_
  refine W_region ?_
  refine L (D_v (R_assign rfl) ?_)
  refine S_nil ?_
  refine T_tn ?_
  refine wp_block ?_
  refine W_loop (fun mz g W => ∃ (i : Nat), mz = k - i ∧ g 1 = i64 ((a : Nat) : Int) ∧ g 2 = i64 ((b : Nat) : Int) ∧ g 3 = i64 ((k : Nat) : Int) ∧ g 4 = .pointer (some ⟨aB1_0, 0, none⟩) ∧ g 8 = i64 ((i : Nat) : Int) ∧ Chg gB w W ∧ S (sr f a b i) W ∧ Blk W aB1_0 [lf, sf] 117 ∧ i ≤ k) ⟨0, rfl, rfl, rfl, rfl, rfl, rfl, hE, hG, hB1_0, (Nat.zero_le _)⟩ ?_
  rintro mz f3 w3l ⟨i, hm, q1, q2, q3, q4, q8, hE, hG, hB1_0, hi⟩
  refine wp_seq ?_
  refine wp_seq ?_
  refine W_region ?_
  refine L (D_v (R_move q8) ?_)
  refine L (D_v (R_move q3) ?_)
  refine L (D_v (R_lssI rfl rfl) ?_)
  refine S_nil ?_
  refine T_tn ?_
  refine W_if rfl (fun c1 => ?_) (fun c1 => ?_)
  ·
    have lk : (i < k) := by have e := of_decide_eq_true c1; omega
    refine wp_skip ?_
    refine T_tn ?_
    refine wp_seq ?_
    refine wp_block ?_
    refine W_region ?_
    refine L (D_v (R_fieldAddr Tryz.runUnderlying117 rfl Tryz.sizeOf113 q4) ?_)
    refine L (D_v (R_load Tryz.isAgg113 hB1_0 rfl rfl) ?_)
    refine L (D_v (R_move q1) ?_)
    refine L (D_v (R_move q8) ?_)
    refine L (D_v (R_addN (m := a) (j := i) rfl rfl (by (try simp only [List.length_take, List.length_drop, List.length_append, List.length_cons, List.length_nil, List.length_replicate, List.length_set, Nm.b_len, be2_len]); omega)) ?_)
    refine L (D_v (R_move q2) ?_)
    refine L (D_v (R_move q8) ?_)
    refine L (D_v (R_addN (m := b) (j := i) rfl rfl (by (try simp only [List.length_take, List.length_drop, List.length_append, List.length_cons, List.length_nil, List.length_replicate, List.length_set, Nm.b_len, be2_len]); omega)) ?_)
    refine L (D_callV rfl (mapv2 rfl rfl) (hR.swap _ _ ((a + i)) ((b + i)) hG (by (try simp only [List.length_take, List.length_drop, List.length_append, List.length_cons, List.length_nil, List.length_replicate, List.length_set, Nm.b_len, be2_len]); omega) (by (try simp only [List.length_take, List.length_drop, List.length_append, List.length_cons, List.length_nil, List.length_replicate, List.length_set, Nm.b_len, be2_len]); omega)) ?_)
    rintro _ w5_8 ⟨rfl, e5_8, hG⟩
    replace hE := hE.chg e5_8
    replace hB1_0 := hB1_0.chg e5_8 nGB1_0.symm
    rw [sr_step f (by omega)] at hG
    refine S_nil ?_
    refine T_bn ?_
    refine T_tn ?_
    refine W_region ?_
    refine L (D_v (R_move q8) ?_)
    refine L (D_v (R_addN (m := i) (j := 1) rfl rfl (by (try simp only [List.length_take, List.length_drop, List.length_append, List.length_cons, List.length_nil, List.length_replicate, List.length_set, Nm.b_len, be2_len]); omega)) ?_)
    refine L (D_v (R_assign rfl) ?_)
    refine S_nil ?_
    refine T_tn ?_
    refine ⟨_, _, ?_, rfl, i + 1, rfl, q1, q2, q3, q4, rfl, hE, hG, hB1_0, ?_⟩
    all_goals omega
  ·
    have lk : ¬ (i < k) := by have e := of_decide_eq_false c1; omega
    refine wp_exit ?_
    refine T_te ?_
    refine T_te ?_
    refine T_be ?_
    refine ret0n rfl ⟨rfl, hE, ?_⟩
    obtain rfl : i = k := by omega
    exact hG
set_option maxRecDepth 4000 in
set_option maxHeartbeats 2000000 in
theorem c175 {α : Type} {S : (Nat → α) → World → Prop} {gB n : Nat} {lf sf : Value} {lt : α → α → Bool} (hR : Srt Tryz.prog S gB n lf sf lt) (f : Nat → α) (a m b : Nat) (w : World) (hG : S f w) (ham : a < m) (hmb : m < b) (hb : b ≤ n) : Calls Tryz.prog 131 [.agg #[lf, sf], i64 ((a : Nat) : Int), i64 ((m : Nat) : Int), i64 ((b : Nat) : Int)].toArray w (RetS gB w fun w2 => S (rt f a m b) w2) := by
  refine enter Tryz.func131 Tryz.ntmps131 rfl rfl ?_
  have hE := Chg.refl gB w
  have hnb := hR.nb
  have hlp := hR.lp
  have hsp := hR.sp
  refine wp_seq ?_
  refine W_region ?_
  refine L (D_box (c := [lf, sf]) (rfl) (fun aB1_0 w1_0 e1_0 gB1_0 hB1_0 => ?_))
  have lB1_0 := Nat.le_trans hE.size gB1_0
  have nGB1_0 := Nat.ne_of_lt (Nat.lt_of_lt_of_le (hR.bound _ _ hG) gB1_0)
  replace hE := hE.trans e1_0
  replace hG := hR.ext _ _ _ hG e1_0
  refine S_nil ?_
  refine T_tn ?_
  refine wp_seq ?_
  refine W_region ?_
  refine L (D_v (R_move rfl) ?_)
  refine L (D_v (R_move rfl) ?_)
  refine L (D_v (R_subN (m := m) (j := a) rfl rfl (by (try simp only [List.length_take, List.length_drop, List.length_append, List.length_cons, List.length_nil, List.length_replicate, List.length_set, Nm.b_len, be2_len]); omega) (by (try simp only [List.length_take, List.length_drop, List.length_append, List.length_cons, List.length_nil, List.length_replicate, List.length_set, Nm.b_len, be2_len]); omega)) ?_)
  refine L (D_v (R_assign rfl) ?_)
  refine S_nil ?_
  refine T_tn ?_
  refine wp_seq ?_
  refine W_region ?_
  refine L (D_v (R_move rfl) ?_)
  refine L (D_v (R_move rfl) ?_)
  refine L (D_v (R_subN (m := b) (j := m) rfl rfl (by (try simp only [List.length_take, List.length_drop, List.length_append, List.length_cons, List.length_nil, List.length_replicate, List.length_set, Nm.b_len, be2_len]); omega) (by (try simp only [List.length_take, List.length_drop, List.length_append, List.length_cons, List.length_nil, List.length_replicate, List.length_set, Nm.b_len, be2_len]); omega)) ?_)
  refine L (D_v (R_assign rfl) ?_)
  refine S_nil ?_
  refine T_tn ?_
  refine wp_seq ?_
  refine wp_block ?_
  refine W_loop (fun mz g W => ∃ (i : Nat) (j : Nat) (h : Nat → α), mz = i + j ∧ g 2 = i64 ((m : Nat) : Int) ∧ g 4 = .pointer (some ⟨aB1_0, 0, none⟩) ∧ g 8 = i64 ((i : Nat) : Int) ∧ g 9 = i64 ((j : Nat) : Int) ∧ Chg gB w W ∧ S (h) W ∧ Blk W aB1_0 [lf, sf] 117 ∧ 1 ≤ i ∧ 1 ≤ j ∧ a + i ≤ m ∧ m + j ≤ b ∧ Rot (rt f a m b) h m i j) ⟨m - a, b - m, f, rfl, rfl, rfl, rfl, rfl, hE, hG, hB1_0, (by omega), (by omega), (by omega), (by omega), (Rot.start f (by omega) (by omega))⟩ ?_
  rintro mz f4 w4l ⟨i, j, h, hm, q2, q4, q8, q9, hE, hG, hB1_0, hi, hj, him, hjb, hro⟩
  refine wp_seq ?_
  refine wp_seq ?_
  refine W_region ?_
  refine L (D_v (R_move q8) ?_)
  refine L (D_v (R_move q9) ?_)
  refine L (D_v (R_neqI rfl rfl) ?_)
  refine S_nil ?_
  refine T_tn ?_
  refine W_if rfl (fun c1 => ?_) (fun c1 => ?_)
  ·
    have ne : ¬ i = j := by intro e; subst e; simp at c1
    refine wp_skip ?_
    refine T_tn ?_
    refine wp_block ?_
    refine wp_seq ?_
    refine W_region ?_
    refine L (D_v (R_move q8) ?_)
    refine L (D_v (R_move q9) ?_)
    refine L (D_v (R_gtrI rfl rfl) ?_)
    refine S_nil ?_
    refine T_tn ?_
    refine W_if rfl (fun c2 => ?_) (fun c2 => ?_)
    ·
      have lk : (j < i) := by have e := of_decide_eq_true c2; omega
      refine wp_seq ?_
      refine W_region ?_
      refine L (D_v (R_loadA (c := [lf, sf]) Tryz.isAgg117 Tryz.sizeOf117 hB1_0 q4 rfl rfl) ?_)
      refine L (D_v (R_move q2) ?_)
      refine L (D_v (R_move q8) ?_)
      refine L (D_v (R_subN (m := m) (j := i) rfl rfl (by (try simp only [List.length_take, List.length_drop, List.length_append, List.length_cons, List.length_nil, List.length_replicate, List.length_set, Nm.b_len, be2_len]); omega) (by (try simp only [List.length_take, List.length_drop, List.length_append, List.length_cons, List.length_nil, List.length_replicate, List.length_set, Nm.b_len, be2_len]); omega)) ?_)
      refine L (D_v (R_move q2) ?_)
      refine L (D_v (R_move q9) ?_)
      refine L (D_callS (R_callF Tryz.call141 rfl rfl) (c186 hR (h) ((m - i)) (m) (j) _ hG (by omega) (by omega)) (fun w7_6 p7_6 => ?_))
      obtain ⟨e7_6, hG⟩ := p7_6
      replace hE := hE.chg e7_6
      replace hB1_0 := hB1_0.chg e7_6 nGB1_0.symm
      refine S_nil ?_
      refine T_tn ?_
      refine W_region ?_
      refine L (D_v (R_move q8) ?_)
      refine L (D_v (R_move q9) ?_)
      refine L (D_v (R_subN (m := i) (j := j) rfl rfl (by (try simp only [List.length_take, List.length_drop, List.length_append, List.length_cons, List.length_nil, List.length_replicate, List.length_set, Nm.b_len, be2_len]); omega) (by (try simp only [List.length_take, List.length_drop, List.length_append, List.length_cons, List.length_nil, List.length_replicate, List.length_set, Nm.b_len, be2_len]); omega)) ?_)
      refine L (D_v (R_assign rfl) ?_)
      refine S_nil ?_
      refine T_bn ?_
      refine T_tn ?_
      refine ⟨_, _, ?_, rfl, _, _, _, rfl, q2, q4, rfl, q9, hE, hG, hB1_0, ?_, ?_, ?_, ?_, ?_⟩
      all_goals first | omega | exact hro.gt (by omega) (by omega) | exact hro.lss (by omega) (by omega)
    ·
      have lk : ¬ (j < i) := by have e := of_decide_eq_false c2; omega
      refine wp_seq ?_
      refine W_region ?_
      refine L (D_v (R_loadA (c := [lf, sf]) Tryz.isAgg117 Tryz.sizeOf117 hB1_0 q4 rfl rfl) ?_)
      refine L (D_v (R_move q2) ?_)
      refine L (D_v (R_move q8) ?_)
      refine L (D_v (R_subN (m := m) (j := i) rfl rfl (by (try simp only [List.length_take, List.length_drop, List.length_append, List.length_cons, List.length_nil, List.length_replicate, List.length_set, Nm.b_len, be2_len]); omega) (by (try simp only [List.length_take, List.length_drop, List.length_append, List.length_cons, List.length_nil, List.length_replicate, List.length_set, Nm.b_len, be2_len]); omega)) ?_)
      refine L (D_v (R_move q2) ?_)
      refine L (D_v (R_move q9) ?_)
      refine L (D_v (R_addN (m := m) (j := j) rfl rfl (by (try simp only [List.length_take, List.length_drop, List.length_append, List.length_cons, List.length_nil, List.length_replicate, List.length_set, Nm.b_len, be2_len]); omega)) ?_)
      refine L (D_v (R_move q8) ?_)
      refine L (D_v (R_subN (m := (m + j)) (j := i) rfl rfl (by (try simp only [List.length_take, List.length_drop, List.length_append, List.length_cons, List.length_nil, List.length_replicate, List.length_set, Nm.b_len, be2_len]); omega) (by (try simp only [List.length_take, List.length_drop, List.length_append, List.length_cons, List.length_nil, List.length_replicate, List.length_set, Nm.b_len, be2_len]); omega)) ?_)
      refine L (D_v (R_move q8) ?_)
      refine L (D_callS (R_callF Tryz.call141 rfl rfl) (c186 hR (h) ((m - i)) (((m + j) - i)) (i) _ hG (by omega) (by omega)) (fun w7_10 p7_10 => ?_))
      obtain ⟨e7_10, hG⟩ := p7_10
      replace hE := hE.chg e7_10
      replace hB1_0 := hB1_0.chg e7_10 nGB1_0.symm
      refine S_nil ?_
      refine T_tn ?_
      refine W_region ?_
      refine L (D_v (R_move q9) ?_)
      refine L (D_v (R_move q8) ?_)
      refine L (D_v (R_subN (m := j) (j := i) rfl rfl (by (try simp only [List.length_take, List.length_drop, List.length_append, List.length_cons, List.length_nil, List.length_replicate, List.length_set, Nm.b_len, be2_len]); omega) (by (try simp only [List.length_take, List.length_drop, List.length_append, List.length_cons, List.length_nil, List.length_replicate, List.length_set, Nm.b_len, be2_len]); omega)) ?_)
      refine L (D_v (R_assign rfl) ?_)
      refine S_nil ?_
      refine T_bn ?_
      refine T_tn ?_
      refine ⟨_, _, ?_, rfl, _, _, _, rfl, q2, q4, q8, rfl, hE, hG, hB1_0, ?_, ?_, ?_, ?_, ?_⟩
      all_goals first | omega | exact hro.gt (by omega) (by omega) | exact hro.lss (by omega) (by omega)
  ·
    have ne : i = j := by simp at c1; omega
    refine wp_exit ?_
    refine T_te ?_
    refine T_te ?_
    refine T_be ?_
    refine T_tn ?_
    refine W_region ?_
    refine L (D_v (R_loadA (c := [lf, sf]) Tryz.isAgg117 Tryz.sizeOf117 hB1_0 q4 rfl rfl) ?_)
    refine L (D_v (R_move q2) ?_)
    refine L (D_v (R_move q8) ?_)
    refine L (D_v (R_subN (m := m) (j := i) rfl rfl (by (try simp only [List.length_take, List.length_drop, List.length_append, List.length_cons, List.length_nil, List.length_replicate, List.length_set, Nm.b_len, be2_len]); omega) (by (try simp only [List.length_take, List.length_drop, List.length_append, List.length_cons, List.length_nil, List.length_replicate, List.length_set, Nm.b_len, be2_len]); omega)) ?_)
    refine L (D_v (R_move q2) ?_)
    refine L (D_v (R_move q8) ?_)
    refine L (D_callS (R_callF Tryz.call141 rfl rfl) (c186 hR (h) ((m - i)) (m) (i) _ hG (by omega) (by omega)) (fun w6_6 p6_6 => ?_))
    obtain ⟨e6_6, hG⟩ := p6_6
    replace hE := hE.chg e6_6
    replace hB1_0 := hB1_0.chg e6_6 nGB1_0.symm
    refine S_nil ?_
    refine ret0n rfl ⟨rfl, hE, ?_⟩
    subst ne
    rw [hro.last (by omega)] at hG
    exact hG
set_option maxRecDepth 4000 in
set_option maxHeartbeats 2000000 in
theorem c155 {α : Type} {S : (Nat → α) → World → Prop} {gB n : Nat} {lf sf : Value} {lt : α → α → Bool} (hR : Srt Tryz.prog S gB n lf sf lt) (f : Nat → α) (a b : Nat) (w : World) (hG : S f w) (hab : a ≤ b) (hb : b ≤ n) : Calls Tryz.prog 113 [.agg #[lf, sf], i64 ((a : Nat) : Int), i64 ((b : Nat) : Int)].toArray w (RetS gB w fun w2 => ∃ f', S f' w2 ∧ Mv f f' a b ∧ srt lt f' a b) := by
  refine enter Tryz.func113 Tryz.ntmps113 rfl rfl ?_
  have hE := Chg.refl gB w
  have hnb := hR.nb
  have hlp := hR.lp
  have hsp := hR.sp
  refine wp_seq ?_
  refine W_region ?_
  refine L (D_box (c := [lf, sf]) (rfl) (fun aB1_0 w1_0 e1_0 gB1_0 hB1_0 => ?_))
  have lB1_0 := Nat.le_trans hE.size gB1_0
  have nGB1_0 := Nat.ne_of_lt (Nat.lt_of_lt_of_le (hR.bound _ _ hG) gB1_0)
  replace hE := hE.trans e1_0
  replace hG := hR.ext _ _ _ hG e1_0
  refine S_nil ?_
  refine T_tn ?_
  refine wp_seq ?_
  refine W_region ?_
  refine L (D_v (R_move rfl) ?_)
  refine L (D_v (R_addN (m := a) (j := 1) rfl rfl (by (try simp only [List.length_take, List.length_drop, List.length_append, List.length_cons, List.length_nil, List.length_replicate, List.length_set, Nm.b_len, be2_len]); omega)) ?_)
  refine L (D_v (R_assign rfl) ?_)
  refine S_nil ?_
  refine T_tn ?_
  refine wp_block ?_
  refine W_loop (fun mz g W => ∃ (i : Nat) (h : Nat → α), mz = b - i ∧ g 1 = i64 ((a : Nat) : Int) ∧ g 2 = i64 ((b : Nat) : Int) ∧ g 3 = .pointer (some ⟨aB1_0, 0, none⟩) ∧ g 6 = i64 ((i : Nat) : Int) ∧ Chg gB w W ∧ S (h) W ∧ Blk W aB1_0 [lf, sf] 117 ∧ a + 1 ≤ i ∧ ((i ≤ b ∨ i = a + 1)) ∧ Mv f h a b ∧ srt lt h a i) ⟨a + 1, f, rfl, rfl, rfl, rfl, rfl, hE, hG, hB1_0, (Nat.le_refl _), (.inr rfl), (Mv.refl _ _ _), (srt_small _ (Nat.le_refl _))⟩ ?_
  rintro mz f3 w3l ⟨i, h, hm, q1, q2, q3, q6, hE, hG, hB1_0, hai, hib, hmv, hso⟩
  refine wp_seq ?_
  refine wp_seq ?_
  refine W_region ?_
  refine L (D_v (R_move q6) ?_)
  refine L (D_v (R_move q2) ?_)
  refine L (D_v (R_lssI rfl rfl) ?_)
  refine S_nil ?_
  refine T_tn ?_
  refine W_if rfl (fun c1 => ?_) (fun c1 => ?_)
  ·
    have lk : i < b := by have e := of_decide_eq_true c1; omega
    refine wp_skip ?_
    refine T_tn ?_
    refine wp_seq ?_
    refine wp_block ?_
    refine wp_seq ?_
    refine W_region ?_
    refine L (D_v (R_move q6) ?_)
    refine L (D_v (R_assign rfl) ?_)
    refine S_nil ?_
    refine T_tn ?_
    refine wp_block ?_
    refine W_loop (fun mz g W => ∃ (j : Nat) (h2 : Nat → α), mz = j + 0 ∧ g 1 = i64 ((a : Nat) : Int) ∧ g 2 = i64 ((b : Nat) : Int) ∧ g 3 = .pointer (some ⟨aB1_0, 0, none⟩) ∧ g 6 = i64 ((i : Nat) : Int) ∧ g 7 = i64 ((j : Nat) : Int) ∧ Chg gB w W ∧ S (h2) W ∧ Blk W aB1_0 [lf, sf] 117 ∧ a ≤ j ∧ j ≤ i ∧ Mv f h2 a b ∧ ins lt h2 a j i) ⟨i, h, rfl, q1, q2, q3, q6, rfl, hE, hG, hB1_0, (by omega), (Nat.le_refl _), hmv, (ins_start hso)⟩ ?_
    rintro mz f6 w6l ⟨j, h2, hm, q1, q2, q3, q6, q7, hE, hG, hB1_0, haj, hji, hm2, hin⟩
    refine wp_seq ?_
    refine wp_seq ?_
    refine W_region ?_
    refine L (D_v (R_move q7) ?_)
    refine L (D_v (R_move q1) ?_)
    refine L (D_v (R_gtrI rfl rfl) ?_)
    refine L (D_v (R_move rfl) ?_)
    refine L (D_g1 rfl rfl (fun hb => R_fieldAddr Tryz.runUnderlying117 rfl Tryz.sizeOf76 q3) ?_)
    refine L (D_g1 rfl rfl (fun hb => R_load Tryz.isAgg76 hB1_0 (cgE hb) rfl) ?_)
    refine L (D_g1 rfl rfl (fun hb => R_move q7) ?_)
    refine L (D_g1 rfl rfl (fun hb => R_move q7) ?_)
    refine L (D_g1 rfl rfl (fun hb => R_subN (m := j) (j := 1) (cgE hb) rfl (by have e := of_decide_eq_true hb; omega) (by omega)) ?_)
    refine L (D_gVB rfl rfl (fun hb => (cgE hb)) (fun hb => (mapv2 (cgE hb) (cgE hb))) (fun hb => hR.less _ _ (j) ((j - 1)) hG (by first | omega | (have e := of_decide_eq_true hb; omega)) (by first | omega | (have e := of_decide_eq_true hb; omega))) (fun w7_9 e7_9 => ?_))
    replace hE := hE.trans e7_9
    replace hG := hR.ext _ _ _ hG e7_9
    replace hB1_0 := hB1_0.ext e7_9
    refine L (D_v (R_pickA rfl rfl rfl) ?_)
    refine S_nil ?_
    refine T_tn ?_
    refine W_if rfl (fun c2 => ?_) (fun c2 => ?_)
    ·
      have lj : a < j ∧ lt (h2 j) (h2 (j - 1)) = true := by have e := c2; simp only [Bool.and_eq_true, decide_eq_true_eq] at e; exact ⟨by omega, e.2⟩
      refine wp_skip ?_
      refine T_tn ?_
      refine wp_seq ?_
      refine wp_block ?_
      refine W_region ?_
      refine L (D_v (R_fieldAddr Tryz.runUnderlying117 rfl Tryz.sizeOf113 q3) ?_)
      refine L (D_v (R_load Tryz.isAgg113 hB1_0 rfl rfl) ?_)
      refine L (D_v (R_move q7) ?_)
      refine L (D_v (R_move q7) ?_)
      refine L (D_v (R_subN (m := j) (j := 1) rfl rfl (by (try simp only [List.length_take, List.length_drop, List.length_append, List.length_cons, List.length_nil, List.length_replicate, List.length_set, Nm.b_len, be2_len]); omega) (by (try simp only [List.length_take, List.length_drop, List.length_append, List.length_cons, List.length_nil, List.length_replicate, List.length_set, Nm.b_len, be2_len]); omega)) ?_)
      refine L (D_callV rfl (mapv2 rfl rfl) (hR.swap _ _ (j) ((j - 1)) hG (by first | omega | (have e := of_decide_eq_true hb; omega)) (by first | omega | (have e := of_decide_eq_true hb; omega))) ?_)
      rintro _ w8_5 ⟨rfl, e8_5, hG⟩
      replace hE := hE.chg e8_5
      replace hB1_0 := hB1_0.chg e8_5 nGB1_0.symm
      refine S_nil ?_
      refine T_bn ?_
      refine T_tn ?_
      refine W_region ?_
      refine L (D_v (R_move q7) ?_)
      refine L (D_v (R_subN (m := j) (j := 1) rfl rfl (by (try simp only [List.length_take, List.length_drop, List.length_append, List.length_cons, List.length_nil, List.length_replicate, List.length_set, Nm.b_len, be2_len]); omega) (by (try simp only [List.length_take, List.length_drop, List.length_append, List.length_cons, List.length_nil, List.length_replicate, List.length_set, Nm.b_len, be2_len]); omega)) ?_)
      refine L (D_v (R_assign rfl) ?_)
      refine S_nil ?_
      refine T_tn ?_
      refine ⟨_, _, ?_, rfl, j - 1, _, rfl, q1, q2, q3, q6, rfl, hE, hG, hB1_0, ?_, ?_, ?_, ?_⟩
      all_goals first | omega | exact hm2.trans (Mv.swp _ (by omega) (by omega)) | exact ins_step hR.ord hin (by omega) lj.2
    ·
      have lj : j = a ∨ lt (h2 j) (h2 (j - 1)) = false := by by_cases e1 : j = a; exact .inl e1; have e := c2; rw [Bool.and_eq_false_iff] at e; exact .inr (e.resolve_left (by simp; omega))
      have hso2 := ins_end hR.ord hin (by omega) lj
      have hmv2 := hm2
      refine wp_exit ?_
      refine T_te ?_
      refine T_te ?_
      refine T_be ?_
      refine T_bn ?_
      refine T_tn ?_
      refine W_region ?_
      refine L (D_v (R_move q6) ?_)
      refine L (D_v (R_addN (m := i) (j := 1) rfl rfl (by (try simp only [List.length_take, List.length_drop, List.length_append, List.length_cons, List.length_nil, List.length_replicate, List.length_set, Nm.b_len, be2_len]); omega)) ?_)
      refine L (D_v (R_assign rfl) ?_)
      refine S_nil ?_
      refine T_tn ?_
      refine ⟨_, _, ?_, rfl, i + 1, _, rfl, q1, q2, q3, rfl, hE, hG, hB1_0, ?_, ?_, ?_, ?_⟩
      all_goals first | omega | exact .inl (by omega) | exact hmv2 | exact hso2
  ·
    have lk : ¬ i < b := by have e := of_decide_eq_false c1; omega
    refine wp_exit ?_
    refine T_te ?_
    refine T_te ?_
    refine T_be ?_
    refine ret0n rfl ⟨rfl, hE, ?_⟩
    exact ⟨_, hG, hmv, srt_mono hso (Nat.le_refl _) (by omega)⟩
set_option maxRecDepth 4000 in
set_option maxHeartbeats 8000000 in
theorem c156s {α : Type} {S : (Nat → α) → World → Prop} {gB n : Nat} {lf sf : Value} {lt : α → α → Bool} (hR : Srt Tryz.prog S gB n lf sf lt) (f : Nat → α) (N : Nat) (ih : ∀ (f : Nat → α) (a m b : Nat) (w : World), b - a ≤ N → S f w → a < m → m < b → b ≤ n → srt lt f a m → srt lt f m b → Calls Tryz.prog 114 [.agg #[lf, sf], i64 ((a : Nat) : Int), i64 ((m : Nat) : Int), i64 ((b : Nat) : Int)].toArray w (RetS gB w fun w2 => ∃ f', S f' w2 ∧ Mv f f' a b ∧ srt lt f' a b)) (a m b : Nat) (w : World) (hG : S f w) (hN : b - a ≤ N + 1) (ham : a < m) (hmb : m < b) (hbn : b ≤ n) (hs1 : srt lt f a m) (hs2 : srt lt f m b) : Calls Tryz.prog 114 [.agg #[lf, sf], i64 ((a : Nat) : Int), i64 ((m : Nat) : Int), i64 ((b : Nat) : Int)].toArray w (RetS gB w fun w2 => ∃ f', S f' w2 ∧ Mv f f' a b ∧ srt lt f' a b) := by
  refine enter Tryz.func114 Tryz.ntmps114 rfl rfl ?_
  have hE := Chg.refl gB w
  have hnb := hR.nb
  have hlp := hR.lp
  have hsp := hR.sp
  refine wp_seq ?_
  refine W_region ?_
  refine L (D_box (c := [lf, sf]) (rfl) (fun aB1_0 w1_0 e1_0 gB1_0 hB1_0 => ?_))
  have lB1_0 := Nat.le_trans hE.size gB1_0
  have nGB1_0 := Nat.ne_of_lt (Nat.lt_of_lt_of_le (hR.bound _ _ hG) gB1_0)
  replace hE := hE.trans e1_0
  replace hG := hR.ext _ _ _ hG e1_0
  refine S_nil ?_
  refine T_tn ?_
  refine wp_seq ?_
  refine wp_seq ?_
  refine W_region ?_
  refine L (D_v (R_move rfl) ?_)
  refine L (D_v (R_move rfl) ?_)
  refine L (D_v (R_subN (m := m) (j := a) rfl rfl (by (try simp only [List.length_take, List.length_drop, List.length_append, List.length_cons, List.length_nil, List.length_replicate, List.length_set, Nm.b_len, be2_len]); omega) (by (try simp only [List.length_take, List.length_drop, List.length_append, List.length_cons, List.length_nil, List.length_replicate, List.length_set, Nm.b_len, be2_len]); omega)) ?_)
  refine L (D_v (R_eqlI rfl rfl) ?_)
  refine S_nil ?_
  refine T_tn ?_
  refine W_if rfl (fun c1 => ?_) (fun c1 => ?_)
  ·
    have h1 : m - a = 1 := by simp at c1; omega
    refine wp_seq ?_
    refine W_region ?_
    refine L (D_v (R_move rfl) ?_)
    refine L (D_v (R_assign rfl) ?_)
    refine S_nil ?_
    refine T_tn ?_
    refine wp_seq ?_
    refine W_region ?_
    refine L (D_v (R_move rfl) ?_)
    refine L (D_v (R_assign rfl) ?_)
    refine S_nil ?_
    refine T_tn ?_
    refine wp_seq ?_
    refine wp_block ?_
    refine W_loop (fun mz g W => ∃ (i : Nat) (j : Nat), mz = j - i ∧ g 1 = i64 ((a : Nat) : Int) ∧ g 4 = .pointer (some ⟨aB1_0, 0, none⟩) ∧ g 8 = i64 ((i : Nat) : Int) ∧ g 9 = i64 ((j : Nat) : Int) ∧ Chg gB w W ∧ S (f) W ∧ Blk W aB1_0 [lf, sf] 117 ∧ m ≤ i ∧ i ≤ j ∧ j ≤ b ∧ (∀ c : Nat, m ≤ c → c < i → lt (f c) (f a) = true) ∧ (∀ c : Nat, j ≤ c → c < b → lt (f c) (f a) = false)) ⟨m, b, rfl, rfl, rfl, rfl, rfl, hE, hG, hB1_0, (Nat.le_refl _), (by omega), (Nat.le_refl _), (fun c c1 c2 => by omega), (fun c c1 c2 => by omega)⟩ ?_
    rintro mz f5 w5l ⟨i, j, hm, q1, q4, q8, q9, hE, hG, hB1_0, hmi, hij, hjb, hlo, hhi⟩
    refine wp_seq ?_
    refine wp_seq ?_
    refine W_region ?_
    refine L (D_v (R_move q8) ?_)
    refine L (D_v (R_move q9) ?_)
    refine L (D_v (R_lssI rfl rfl) ?_)
    refine S_nil ?_
    refine T_tn ?_
    refine W_if rfl (fun c2 => ?_) (fun c2 => ?_)
    ·
      have li : i < j := by have e := of_decide_eq_true c2; omega
      refine wp_skip ?_
      refine T_tn ?_
      refine wp_block ?_
      refine wp_seq ?_
      refine W_region ?_
      refine L (D_v (R_move q8) ?_)
      refine L (D_v (R_move q9) ?_)
      refine L (D_v (R_addN (m := i) (j := j) rfl rfl (by (try simp only [List.length_take, List.length_drop, List.length_append, List.length_cons, List.length_nil, List.length_replicate, List.length_set, Nm.b_len, be2_len]); omega)) ?_)
      refine L (D_v (R_cvU (m := (i + j)) Tryz.runUnderlying3 Tryz.runUnderlying79 rfl (by (try simp only [List.length_take, List.length_drop, List.length_append, List.length_cons, List.length_nil, List.length_replicate, List.length_set, Nm.b_len, be2_len]); omega)) ?_)
      refine L (D_v (R_shrU (m := (i + j)) rfl rfl) ?_)
      refine L (D_v (R_cvI (m := ((i + j) / 2)) Tryz.runUnderlying79 Tryz.runUnderlying3 rfl (by (try simp only [List.length_take, List.length_drop, List.length_append, List.length_cons, List.length_nil, List.length_replicate, List.length_set, Nm.b_len, be2_len]); omega)) ?_)
      refine L (D_v (R_assign rfl) ?_)
      refine S_nil ?_
      refine T_tn ?_
      refine wp_seq ?_
      refine W_region ?_
      refine L (D_v (R_fieldAddr Tryz.runUnderlying117 rfl Tryz.sizeOf76 q4) ?_)
      refine L (D_v (R_load Tryz.isAgg76 hB1_0 rfl rfl) ?_)
      refine L (D_v (R_move rfl) ?_)
      refine L (D_v (R_move q1) ?_)
      refine L (D_callV rfl (mapv2 rfl rfl) (hR.less _ _ (((i + j) / 2)) (a) hG (by (try simp only [List.length_take, List.length_drop, List.length_append, List.length_cons, List.length_nil, List.length_replicate, List.length_set, Nm.b_len, be2_len]); omega) (by (try simp only [List.length_take, List.length_drop, List.length_append, List.length_cons, List.length_nil, List.length_replicate, List.length_set, Nm.b_len, be2_len]); omega)) ?_)
      rintro _ w8_4 ⟨rfl, e8_4⟩
      replace hE := hE.trans e8_4
      replace hG := hR.ext _ _ _ hG e8_4
      replace hB1_0 := hB1_0.ext e8_4
      refine S_nil ?_
      refine T_tn ?_
      refine W_if rfl (fun c3 => ?_) (fun c3 => ?_)
      ·
        have hl : lt (f ((i + j) / 2)) (f a) = true := c3
        refine W_region ?_
        refine L (D_v (R_move rfl) ?_)
        refine L (D_v (R_addN (m := ((i + j) / 2)) (j := 1) rfl rfl (by (try simp only [List.length_take, List.length_drop, List.length_append, List.length_cons, List.length_nil, List.length_replicate, List.length_set, Nm.b_len, be2_len]); omega)) ?_)
        refine L (D_v (R_assign rfl) ?_)
        refine S_nil ?_
        refine T_bn ?_
        refine T_tn ?_
        refine ⟨_, _, ?_, rfl, _, _, rfl, q1, q4, rfl, q9, hE, hG, hB1_0, ?_, ?_, ?_, ?_, ?_⟩
        all_goals first | omega | exact hlo | exact hhi | exact fun c c1 c2 => bs_lo hR.ord hs2 hl ⟨c1, by omega⟩ (by omega) | exact fun c c1 c2 => bs_hi hR.ord hs2 hl ⟨c1, c2⟩ (by omega)
      ·
        have hl : lt (f ((i + j) / 2)) (f a) = false := c3
        refine W_region ?_
        refine L (D_v (R_move rfl) ?_)
        refine L (D_v (R_assign rfl) ?_)
        refine S_nil ?_
        refine T_bn ?_
        refine T_tn ?_
        refine ⟨_, _, ?_, rfl, _, _, rfl, q1, q4, q8, rfl, hE, hG, hB1_0, ?_, ?_, ?_, ?_, ?_⟩
        all_goals first | omega | exact hlo | exact hhi | exact fun c c1 c2 => bs_lo hR.ord hs2 hl ⟨c1, by omega⟩ (by omega) | exact fun c c1 c2 => bs_hi hR.ord hs2 hl ⟨c1, c2⟩ (by omega)
    ·
      have li : ¬ i < j := by have e := of_decide_eq_false c2; omega
      obtain rfl : i = j := by omega
      refine wp_exit ?_
      refine T_te ?_
      refine T_te ?_
      refine T_be ?_
      refine T_tn ?_
      refine wp_seq ?_
      refine wp_seq ?_
      refine W_region ?_
      refine L (D_v (R_move q1) ?_)
      refine L (D_v (R_assign rfl) ?_)
      refine S_nil ?_
      refine T_tn ?_
      refine wp_block ?_
      refine W_loop (fun mz g W => ∃ (k : Nat), mz = i - k ∧ g 4 = .pointer (some ⟨aB1_0, 0, none⟩) ∧ g 8 = i64 ((i : Nat) : Int) ∧ g 11 = i64 ((k : Nat) : Int) ∧ Chg gB w W ∧ S (up1 f a k) W ∧ Blk W aB1_0 [lf, sf] 117 ∧ a ≤ k ∧ k ≤ i - 1) ⟨a, rfl, q4, q8, rfl, hE, (by rw [up1_zero]; exact hG), hB1_0, (Nat.le_refl _), (by omega)⟩ ?_
      rintro mz f8 w8l ⟨k, hm, q4, q8, q11, hE, hG, hB1_0, hak, hki⟩
      refine wp_seq ?_
      refine wp_seq ?_
      refine W_region ?_
      refine L (D_v (R_move q11) ?_)
      refine L (D_v (R_move q8) ?_)
      refine L (D_v (R_subN (m := i) (j := 1) rfl rfl (by (try simp only [List.length_take, List.length_drop, List.length_append, List.length_cons, List.length_nil, List.length_replicate, List.length_set, Nm.b_len, be2_len]); omega) (by (try simp only [List.length_take, List.length_drop, List.length_append, List.length_cons, List.length_nil, List.length_replicate, List.length_set, Nm.b_len, be2_len]); omega)) ?_)
      refine L (D_v (R_lssI rfl rfl) ?_)
      refine S_nil ?_
      refine T_tn ?_
      refine W_if rfl (fun c3 => ?_) (fun c3 => ?_)
      ·
        have lk : k < i - 1 := by have e := of_decide_eq_true c3; omega
        refine wp_skip ?_
        refine T_tn ?_
        refine wp_seq ?_
        refine wp_block ?_
        refine W_region ?_
        refine L (D_v (R_fieldAddr Tryz.runUnderlying117 rfl Tryz.sizeOf113 q4) ?_)
        refine L (D_v (R_load Tryz.isAgg113 hB1_0 rfl rfl) ?_)
        refine L (D_v (R_move q11) ?_)
        refine L (D_v (R_move q11) ?_)
        refine L (D_v (R_addN (m := k) (j := 1) rfl rfl (by (try simp only [List.length_take, List.length_drop, List.length_append, List.length_cons, List.length_nil, List.length_replicate, List.length_set, Nm.b_len, be2_len]); omega)) ?_)
        refine L (D_callV rfl (mapv2 rfl rfl) (hR.swap _ _ (k) ((k + 1)) hG (by (try simp only [List.length_take, List.length_drop, List.length_append, List.length_cons, List.length_nil, List.length_replicate, List.length_set, Nm.b_len, be2_len]); omega) (by (try simp only [List.length_take, List.length_drop, List.length_append, List.length_cons, List.length_nil, List.length_replicate, List.length_set, Nm.b_len, be2_len]); omega)) ?_)
        rintro _ w10_5 ⟨rfl, e10_5, hG⟩
        replace hE := hE.chg e10_5
        replace hB1_0 := hB1_0.chg e10_5 nGB1_0.symm
        rw [up1_step f (by omega)] at hG
        refine S_nil ?_
        refine T_bn ?_
        refine T_tn ?_
        refine W_region ?_
        refine L (D_v (R_move q11) ?_)
        refine L (D_v (R_addN (m := k) (j := 1) rfl rfl (by (try simp only [List.length_take, List.length_drop, List.length_append, List.length_cons, List.length_nil, List.length_replicate, List.length_set, Nm.b_len, be2_len]); omega)) ?_)
        refine L (D_v (R_assign rfl) ?_)
        refine S_nil ?_
        refine T_tn ?_
        refine ⟨_, _, ?_, rfl, k + 1, rfl, q4, q8, rfl, hE, hG, hB1_0, ?_, ?_⟩
        all_goals omega
      ·
        have lk : ¬ k < i - 1 := by have e := of_decide_eq_false c3; omega
        refine wp_exit ?_
        refine T_te ?_
        refine T_te ?_
        refine T_be ?_
        refine T_tn ?_
        refine wp_ret ?_
        refine T_tr ?_
        refine ret0 rfl ⟨rfl, hE, ?_⟩
        have hk : k = i - 1 := by omega
        subst hk
        exact ⟨_, hG, Mv.up1 f (by omega) (by omega), up1_srt hR.ord (srt_mono hs2 (by omega) (Nat.le_refl _)) (by omega) (fun k k1 k2 => hlo k (by omega) (by omega)) (fun k k1 k2 => hhi k (by omega) k2)⟩
  ·
    have h1 : ¬ m - a = 1 := by simp at c1; omega
    refine wp_skip ?_
    refine T_tn ?_
    refine wp_seq ?_
    refine wp_seq ?_
    refine W_region ?_
    refine L (D_v (R_move rfl) ?_)
    refine L (D_v (R_move rfl) ?_)
    refine L (D_v (R_subN (m := b) (j := m) rfl rfl (by (try simp only [List.length_take, List.length_drop, List.length_append, List.length_cons, List.length_nil, List.length_replicate, List.length_set, Nm.b_len, be2_len]); omega) (by (try simp only [List.length_take, List.length_drop, List.length_append, List.length_cons, List.length_nil, List.length_replicate, List.length_set, Nm.b_len, be2_len]); omega)) ?_)
    refine L (D_v (R_eqlI rfl rfl) ?_)
    refine S_nil ?_
    refine T_tn ?_
    refine W_if rfl (fun c2 => ?_) (fun c2 => ?_)
    ·
      have h2 : b - m = 1 := by simp at c2; omega
      refine wp_seq ?_
      refine W_region ?_
      refine L (D_v (R_move rfl) ?_)
      refine L (D_v (R_assign rfl) ?_)
      refine S_nil ?_
      refine T_tn ?_
      refine wp_seq ?_
      refine W_region ?_
      refine L (D_v (R_move rfl) ?_)
      refine L (D_v (R_assign rfl) ?_)
      refine S_nil ?_
      refine T_tn ?_
      refine wp_seq ?_
      refine wp_block ?_
      refine W_loop (fun mz g W => ∃ (i : Nat) (j : Nat), mz = j - i ∧ g 2 = i64 ((m : Nat) : Int) ∧ g 4 = .pointer (some ⟨aB1_0, 0, none⟩) ∧ g 12 = i64 ((i : Nat) : Int) ∧ g 13 = i64 ((j : Nat) : Int) ∧ Chg gB w W ∧ S (f) W ∧ Blk W aB1_0 [lf, sf] 117 ∧ a ≤ i ∧ i ≤ j ∧ j ≤ m ∧ (∀ c : Nat, a ≤ c → c < i → lt (f m) (f c) = false) ∧ (∀ c : Nat, j ≤ c → c < m → lt (f m) (f c) = true)) ⟨a, m, rfl, rfl, rfl, rfl, rfl, hE, hG, hB1_0, (Nat.le_refl _), (by omega), (Nat.le_refl _), (fun c c1 c2 => by omega), (fun c c1 c2 => by omega)⟩ ?_
      rintro mz f6 w6l ⟨i, j, hm, q2, q4, q12, q13, hE, hG, hB1_0, hai, hij, hjm, hlo, hhi⟩
      refine wp_seq ?_
      refine wp_seq ?_
      refine W_region ?_
      refine L (D_v (R_move q12) ?_)
      refine L (D_v (R_move q13) ?_)
      refine L (D_v (R_lssI rfl rfl) ?_)
      refine S_nil ?_
      refine T_tn ?_
      refine W_if rfl (fun c3 => ?_) (fun c3 => ?_)
      ·
        have li : i < j := by have e := of_decide_eq_true c3; omega
        refine wp_skip ?_
        refine T_tn ?_
        refine wp_block ?_
        refine wp_seq ?_
        refine W_region ?_
        refine L (D_v (R_move q12) ?_)
        refine L (D_v (R_move q13) ?_)
        refine L (D_v (R_addN (m := i) (j := j) rfl rfl (by (try simp only [List.length_take, List.length_drop, List.length_append, List.length_cons, List.length_nil, List.length_replicate, List.length_set, Nm.b_len, be2_len]); omega)) ?_)
        refine L (D_v (R_cvU (m := (i + j)) Tryz.runUnderlying3 Tryz.runUnderlying79 rfl (by (try simp only [List.length_take, List.length_drop, List.length_append, List.length_cons, List.length_nil, List.length_replicate, List.length_set, Nm.b_len, be2_len]); omega)) ?_)
        refine L (D_v (R_shrU (m := (i + j)) rfl rfl) ?_)
        refine L (D_v (R_cvI (m := ((i + j) / 2)) Tryz.runUnderlying79 Tryz.runUnderlying3 rfl (by (try simp only [List.length_take, List.length_drop, List.length_append, List.length_cons, List.length_nil, List.length_replicate, List.length_set, Nm.b_len, be2_len]); omega)) ?_)
        refine L (D_v (R_assign rfl) ?_)
        refine S_nil ?_
        refine T_tn ?_
        refine wp_seq ?_
        refine W_region ?_
        refine L (D_v (R_fieldAddr Tryz.runUnderlying117 rfl Tryz.sizeOf76 q4) ?_)
        refine L (D_v (R_load Tryz.isAgg76 hB1_0 rfl rfl) ?_)
        refine L (D_v (R_move q2) ?_)
        refine L (D_v (R_move rfl) ?_)
        refine L (D_callV rfl (mapv2 rfl rfl) (hR.less _ _ (m) (((i + j) / 2)) hG (by (try simp only [List.length_take, List.length_drop, List.length_append, List.length_cons, List.length_nil, List.length_replicate, List.length_set, Nm.b_len, be2_len]); omega) (by (try simp only [List.length_take, List.length_drop, List.length_append, List.length_cons, List.length_nil, List.length_replicate, List.length_set, Nm.b_len, be2_len]); omega)) ?_)
        rintro _ w9_4 ⟨rfl, e9_4⟩
        replace hE := hE.trans e9_4
        replace hG := hR.ext _ _ _ hG e9_4
        replace hB1_0 := hB1_0.ext e9_4
        refine L (D_v (R_not rfl) ?_)
        refine S_nil ?_
        refine T_tn ?_
        refine W_if rfl (fun c4 => ?_) (fun c4 => ?_)
        ·
          have hl : lt (f m) (f ((i + j) / 2)) = false := by simpa using c4
          refine W_region ?_
          refine L (D_v (R_move rfl) ?_)
          refine L (D_v (R_addN (m := ((i + j) / 2)) (j := 1) rfl rfl (by (try simp only [List.length_take, List.length_drop, List.length_append, List.length_cons, List.length_nil, List.length_replicate, List.length_set, Nm.b_len, be2_len]); omega)) ?_)
          refine L (D_v (R_assign rfl) ?_)
          refine S_nil ?_
          refine T_bn ?_
          refine T_tn ?_
          refine ⟨_, _, ?_, rfl, _, _, rfl, q2, q4, rfl, q13, hE, hG, hB1_0, ?_, ?_, ?_, ?_, ?_⟩
          all_goals first | omega | exact hlo | exact hhi | exact fun c c1 c2 => bt_lo hR.ord hs1 hl ⟨c1, by omega⟩ (by omega) | exact fun c c1 c2 => bt_hi hR.ord hs1 hl ⟨c1, c2⟩ (by omega)
        ·
          have hl : lt (f m) (f ((i + j) / 2)) = true := by simpa using c4
          refine W_region ?_
          refine L (D_v (R_move rfl) ?_)
          refine L (D_v (R_assign rfl) ?_)
          refine S_nil ?_
          refine T_bn ?_
          refine T_tn ?_
          refine ⟨_, _, ?_, rfl, _, _, rfl, q2, q4, q12, rfl, hE, hG, hB1_0, ?_, ?_, ?_, ?_, ?_⟩
          all_goals first | omega | exact hlo | exact hhi | exact fun c c1 c2 => bt_lo hR.ord hs1 hl ⟨c1, by omega⟩ (by omega) | exact fun c c1 c2 => bt_hi hR.ord hs1 hl ⟨c1, c2⟩ (by omega)
      ·
        have li : ¬ i < j := by have e := of_decide_eq_false c3; omega
        obtain rfl : i = j := by omega
        refine wp_exit ?_
        refine T_te ?_
        refine T_te ?_
        refine T_be ?_
        refine T_tn ?_
        refine wp_seq ?_
        refine wp_seq ?_
        refine W_region ?_
        refine L (D_v (R_move q2) ?_)
        refine L (D_v (R_assign rfl) ?_)
        refine S_nil ?_
        refine T_tn ?_
        refine wp_block ?_
        refine W_loop (fun mz g W => ∃ (k : Nat), mz = k + 0 ∧ g 4 = .pointer (some ⟨aB1_0, 0, none⟩) ∧ g 12 = i64 ((i : Nat) : Int) ∧ g 15 = i64 ((k : Nat) : Int) ∧ Chg gB w W ∧ S (dn1 f m k) W ∧ Blk W aB1_0 [lf, sf] 117 ∧ i ≤ k ∧ k ≤ m) ⟨m, rfl, q4, q12, rfl, hE, (by rw [dn1_zero]; exact hG), hB1_0, (by omega), (Nat.le_refl _)⟩ ?_
        rintro mz f9 w9l ⟨k, hm, q4, q12, q15, hE, hG, hB1_0, hik, hkm⟩
        refine wp_seq ?_
        refine wp_seq ?_
        refine W_region ?_
        refine L (D_v (R_move q15) ?_)
        refine L (D_v (R_move q12) ?_)
        refine L (D_v (R_gtrI rfl rfl) ?_)
        refine S_nil ?_
        refine T_tn ?_
        refine W_if rfl (fun c4 => ?_) (fun c4 => ?_)
        ·
          have lk : i < k := by have e := of_decide_eq_true c4; omega
          refine wp_skip ?_
          refine T_tn ?_
          refine wp_seq ?_
          refine wp_block ?_
          refine W_region ?_
          refine L (D_v (R_fieldAddr Tryz.runUnderlying117 rfl Tryz.sizeOf113 q4) ?_)
          refine L (D_v (R_load Tryz.isAgg113 hB1_0 rfl rfl) ?_)
          refine L (D_v (R_move q15) ?_)
          refine L (D_v (R_move q15) ?_)
          refine L (D_v (R_subN (m := k) (j := 1) rfl rfl (by (try simp only [List.length_take, List.length_drop, List.length_append, List.length_cons, List.length_nil, List.length_replicate, List.length_set, Nm.b_len, be2_len]); omega) (by (try simp only [List.length_take, List.length_drop, List.length_append, List.length_cons, List.length_nil, List.length_replicate, List.length_set, Nm.b_len, be2_len]); omega)) ?_)
          refine L (D_callV rfl (mapv2 rfl rfl) (hR.swap _ _ (k) ((k - 1)) hG (by (try simp only [List.length_take, List.length_drop, List.length_append, List.length_cons, List.length_nil, List.length_replicate, List.length_set, Nm.b_len, be2_len]); omega) (by (try simp only [List.length_take, List.length_drop, List.length_append, List.length_cons, List.length_nil, List.length_replicate, List.length_set, Nm.b_len, be2_len]); omega)) ?_)
          rintro _ w11_5 ⟨rfl, e11_5, hG⟩
          replace hE := hE.chg e11_5
          replace hB1_0 := hB1_0.chg e11_5 nGB1_0.symm
          rw [dn1_step2 f (by omega) (by omega)] at hG
          refine S_nil ?_
          refine T_bn ?_
          refine T_tn ?_
          refine W_region ?_
          refine L (D_v (R_move q15) ?_)
          refine L (D_v (R_subN (m := k) (j := 1) rfl rfl (by (try simp only [List.length_take, List.length_drop, List.length_append, List.length_cons, List.length_nil, List.length_replicate, List.length_set, Nm.b_len, be2_len]); omega) (by (try simp only [List.length_take, List.length_drop, List.length_append, List.length_cons, List.length_nil, List.length_replicate, List.length_set, Nm.b_len, be2_len]); omega)) ?_)
          refine L (D_v (R_assign rfl) ?_)
          refine S_nil ?_
          refine T_tn ?_
          refine ⟨_, _, ?_, rfl, k - 1, rfl, q4, q12, rfl, hE, hG, hB1_0, ?_, ?_⟩
          all_goals omega
        ·
          have lk : ¬ i < k := by have e := of_decide_eq_false c4; omega
          refine wp_exit ?_
          refine T_te ?_
          refine T_te ?_
          refine T_be ?_
          refine T_tn ?_
          refine wp_ret ?_
          refine T_tr ?_
          refine ret0 rfl ⟨rfl, hE, ?_⟩
          have hk : k = i := by omega
          subst hk
          have hs := dn1_srt hR.ord hs1 (i := k) (by omega) (fun c k1 k2 => hlo c k1 k2) (fun c k1 k2 => hhi c k1 k2)
          rw [show m + 1 = b by omega] at hs
          exact ⟨_, hG, Mv.dn1 f (by omega) (by omega) (by omega), hs⟩
    ·
      have h2 : ¬ b - m = 1 := by simp at c2; omega
      refine wp_skip ?_
      refine T_tn ?_
      refine wp_seq ?_
      refine W_region ?_
      refine L (D_v (R_move rfl) ?_)
      refine L (D_v (R_move rfl) ?_)
      refine L (D_v (R_addN (m := a) (j := b) rfl rfl (by (try simp only [List.length_take, List.length_drop, List.length_append, List.length_cons, List.length_nil, List.length_replicate, List.length_set, Nm.b_len, be2_len]); omega)) ?_)
      refine L (D_v (R_cvU (m := (a + b)) Tryz.runUnderlying3 Tryz.runUnderlying79 rfl (by (try simp only [List.length_take, List.length_drop, List.length_append, List.length_cons, List.length_nil, List.length_replicate, List.length_set, Nm.b_len, be2_len]); omega)) ?_)
      refine L (D_v (R_shrU (m := (a + b)) rfl rfl) ?_)
      refine L (D_v (R_cvI (m := ((a + b) / 2)) Tryz.runUnderlying79 Tryz.runUnderlying3 rfl (by (try simp only [List.length_take, List.length_drop, List.length_append, List.length_cons, List.length_nil, List.length_replicate, List.length_set, Nm.b_len, be2_len]); omega)) ?_)
      refine L (D_v (R_assign rfl) ?_)
      refine S_nil ?_
      refine T_tn ?_
      refine wp_seq ?_
      refine W_region ?_
      refine L (D_v (R_move rfl) ?_)
      refine L (D_v (R_move rfl) ?_)
      refine L (D_v (R_addN (m := ((a + b) / 2)) (j := m) rfl rfl (by (try simp only [List.length_take, List.length_drop, List.length_append, List.length_cons, List.length_nil, List.length_replicate, List.length_set, Nm.b_len, be2_len]); omega)) ?_)
      refine L (D_v (R_assign rfl) ?_)
      refine S_nil ?_
      refine T_tn ?_
      refine wp_seq ?_
      refine W_region ?_
      refine L (D_v (R_assign rfl) ?_)
      refine L (D_v (R_assign rfl) ?_)
      refine S_nil ?_
      refine T_tn ?_
      refine wp_seq ?_
      refine wp_seq ?_
      refine W_region ?_
      refine L (D_v (R_move rfl) ?_)
      refine L (D_v (R_move rfl) ?_)
      refine L (D_v (R_gtrI rfl rfl) ?_)
      refine S_nil ?_
      refine T_tn ?_
      refine W_if rfl (fun c3 => ?_) (fun c3 => ?_)
      ·
        have hc : ((a + b) / 2) < m := by have e := of_decide_eq_true c3; omega
        refine wp_seq ?_
        refine W_region ?_
        refine L (D_v (R_move rfl) ?_)
        refine L (D_v (R_move rfl) ?_)
        refine L (D_v (R_subN (m := (((a + b) / 2) + m)) (j := b) rfl rfl (by (try simp only [List.length_take, List.length_drop, List.length_append, List.length_cons, List.length_nil, List.length_replicate, List.length_set, Nm.b_len, be2_len]); omega) (by (try simp only [List.length_take, List.length_drop, List.length_append, List.length_cons, List.length_nil, List.length_replicate, List.length_set, Nm.b_len, be2_len]); omega)) ?_)
        refine L (D_v (R_assign rfl) ?_)
        refine S_nil ?_
        refine T_tn ?_
        refine W_region ?_
        refine L (D_v (R_move rfl) ?_)
        refine L (D_v (R_assign rfl) ?_)
        refine S_nil ?_
        refine T_tn ?_
        refine wp_seq ?_
        refine W_region ?_
        refine L (D_v (R_move rfl) ?_)
        refine L (D_v (R_subN (m := (((a + b) / 2) + m)) (j := 1) rfl rfl (by (try simp only [List.length_take, List.length_drop, List.length_append, List.length_cons, List.length_nil, List.length_replicate, List.length_set, Nm.b_len, be2_len]); omega) (by (try simp only [List.length_take, List.length_drop, List.length_append, List.length_cons, List.length_nil, List.length_replicate, List.length_set, Nm.b_len, be2_len]); omega)) ?_)
        refine L (D_v (R_assign rfl) ?_)
        refine S_nil ?_
        refine T_tn ?_
        refine wp_seq ?_
        refine wp_block ?_
        refine W_loop (fun mz g W => ∃ (s : Nat) (r : Nat), mz = r - s ∧ g 1 = i64 ((a : Nat) : Int) ∧ g 2 = i64 ((m : Nat) : Int) ∧ g 3 = i64 ((b : Nat) : Int) ∧ g 4 = .pointer (some ⟨aB1_0, 0, none⟩) ∧ g 16 = i64 ((((a + b) / 2) : Nat) : Int) ∧ g 17 = i64 (((((a + b) / 2) + m) : Nat) : Int) ∧ g 18 = i64 ((s : Nat) : Int) ∧ g 19 = i64 ((r : Nat) : Int) ∧ g 20 = i64 ((((((a + b) / 2) + m) - 1) : Nat) : Int) ∧ Chg gB w W ∧ S (f) W ∧ Blk W aB1_0 [lf, sf] 117 ∧ (((a + b) / 2) + m) - b ≤ s ∧ s ≤ r ∧ r ≤ ((a + b) / 2) ∧ ((s = (((a + b) / 2) + m) - b ∨ lt (f ((((a + b) / 2) + m) - s)) (f (s - 1)) = false)) ∧ ((r = ((a + b) / 2) ∨ lt (f ((((a + b) / 2) + m) - r - 1)) (f r) = true))) ⟨(((a + b) / 2) + m) - b, ((a + b) / 2), rfl, rfl, rfl, rfl, rfl, rfl, rfl, rfl, rfl, rfl, hE, hG, hB1_0, (by omega), (by omega), (by omega), (.inl rfl), (.inl rfl)⟩ ?_
        rintro mz f11 w11l ⟨s, r, hm, q1, q2, q3, q4, q16, q17, q18, q19, q20, hE, hG, hB1_0, hs0, hsr, hr0, H1, H2⟩
        refine wp_seq ?_
        refine wp_seq ?_
        refine W_region ?_
        refine L (D_v (R_move q18) ?_)
        refine L (D_v (R_move q19) ?_)
        refine L (D_v (R_lssI rfl rfl) ?_)
        refine S_nil ?_
        refine T_tn ?_
        refine W_if rfl (fun c4 => ?_) (fun c4 => ?_)
        ·
          have ls : s < r := by have e := of_decide_eq_true c4; omega
          refine wp_skip ?_
          refine T_tn ?_
          refine wp_block ?_
          refine wp_seq ?_
          refine W_region ?_
          refine L (D_v (R_move q18) ?_)
          refine L (D_v (R_move q19) ?_)
          refine L (D_v (R_addN (m := s) (j := r) rfl rfl (by (try simp only [List.length_take, List.length_drop, List.length_append, List.length_cons, List.length_nil, List.length_replicate, List.length_set, Nm.b_len, be2_len]); omega)) ?_)
          refine L (D_v (R_cvU (m := (s + r)) Tryz.runUnderlying3 Tryz.runUnderlying79 rfl (by (try simp only [List.length_take, List.length_drop, List.length_append, List.length_cons, List.length_nil, List.length_replicate, List.length_set, Nm.b_len, be2_len]); omega)) ?_)
          refine L (D_v (R_shrU (m := (s + r)) rfl rfl) ?_)
          refine L (D_v (R_cvI (m := ((s + r) / 2)) Tryz.runUnderlying79 Tryz.runUnderlying3 rfl (by (try simp only [List.length_take, List.length_drop, List.length_append, List.length_cons, List.length_nil, List.length_replicate, List.length_set, Nm.b_len, be2_len]); omega)) ?_)
          refine L (D_v (R_assign rfl) ?_)
          refine S_nil ?_
          refine T_tn ?_
          refine wp_seq ?_
          refine W_region ?_
          refine L (D_v (R_fieldAddr Tryz.runUnderlying117 rfl Tryz.sizeOf76 q4) ?_)
          refine L (D_v (R_load Tryz.isAgg76 hB1_0 rfl rfl) ?_)
          refine L (D_v (R_move q20) ?_)
          refine L (D_v (R_move rfl) ?_)
          refine L (D_v (R_subN (m := ((((a + b) / 2) + m) - 1)) (j := ((s + r) / 2)) rfl rfl (by (try simp only [List.length_take, List.length_drop, List.length_append, List.length_cons, List.length_nil, List.length_replicate, List.length_set, Nm.b_len, be2_len]); omega) (by (try simp only [List.length_take, List.length_drop, List.length_append, List.length_cons, List.length_nil, List.length_replicate, List.length_set, Nm.b_len, be2_len]); omega)) ?_)
          refine L (D_v (R_move rfl) ?_)
          refine L (D_callV rfl (mapv2 rfl rfl) (hR.less _ _ ((((((a + b) / 2) + m) - 1) - ((s + r) / 2))) (((s + r) / 2)) hG (by (try simp only [List.length_take, List.length_drop, List.length_append, List.length_cons, List.length_nil, List.length_replicate, List.length_set, Nm.b_len, be2_len]); omega) (by (try simp only [List.length_take, List.length_drop, List.length_append, List.length_cons, List.length_nil, List.length_replicate, List.length_set, Nm.b_len, be2_len]); omega)) ?_)
          rintro _ w14_6 ⟨rfl, e14_6⟩
          replace hE := hE.trans e14_6
          replace hG := hR.ext _ _ _ hG e14_6
          replace hB1_0 := hB1_0.ext e14_6
          refine L (D_v (R_not rfl) ?_)
          refine S_nil ?_
          refine T_tn ?_
          refine W_if rfl (fun c5 => ?_) (fun c5 => ?_)
          ·
            have hl : lt (f ((((a + b) / 2) + m) - 1 - (s + r) / 2)) (f ((s + r) / 2)) = false := by simpa using c5
            refine W_region ?_
            refine L (D_v (R_move rfl) ?_)
            refine L (D_v (R_addN (m := ((s + r) / 2)) (j := 1) rfl rfl (by (try simp only [List.length_take, List.length_drop, List.length_append, List.length_cons, List.length_nil, List.length_replicate, List.length_set, Nm.b_len, be2_len]); omega)) ?_)
            refine L (D_v (R_assign rfl) ?_)
            refine S_nil ?_
            refine T_bn ?_
            refine T_tn ?_
            refine ⟨_, _, ?_, rfl, _, _, rfl, q1, q2, q3, q4, q16, q17, rfl, q19, q20, hE, hG, hB1_0, ?_, ?_, ?_, ?_, ?_⟩
            all_goals first | omega | exact H1 | exact H2 | (refine .inr ?_; rw [show (((a + b) / 2) + m) - ((s + r) / 2 + 1) = (((a + b) / 2) + m) - 1 - (s + r) / 2 by omega, show (s + r) / 2 + 1 - 1 = (s + r) / 2 by omega]; exact hl) | (refine .inr ?_; rw [show (((a + b) / 2) + m) - (s + r) / 2 - 1 = (((a + b) / 2) + m) - 1 - (s + r) / 2 by omega]; exact hl)
          ·
            have hl : lt (f ((((a + b) / 2) + m) - 1 - (s + r) / 2)) (f ((s + r) / 2)) = true := by simpa using c5
            refine W_region ?_
            refine L (D_v (R_move rfl) ?_)
            refine L (D_v (R_assign rfl) ?_)
            refine S_nil ?_
            refine T_bn ?_
            refine T_tn ?_
            refine ⟨_, _, ?_, rfl, _, _, rfl, q1, q2, q3, q4, q16, q17, q18, rfl, q20, hE, hG, hB1_0, ?_, ?_, ?_, ?_, ?_⟩
            all_goals first | omega | exact H1 | exact H2 | (refine .inr ?_; rw [show (((a + b) / 2) + m) - ((s + r) / 2 + 1) = (((a + b) / 2) + m) - 1 - (s + r) / 2 by omega, show (s + r) / 2 + 1 - 1 = (s + r) / 2 by omega]; exact hl) | (refine .inr ?_; rw [show (((a + b) / 2) + m) - (s + r) / 2 - 1 = (((a + b) / 2) + m) - 1 - (s + r) / 2 by omega]; exact hl)
        ·
          have ls : ¬ s < r := by have e := of_decide_eq_false c4; omega
          obtain rfl : s = r := by omega
          have H1b : s = a ∨ (((a + b) / 2) + m) - s = b ∨ lt (f ((((a + b) / 2) + m) - s)) (f (s - 1)) = false := H1.elim (fun e => by omega) (fun e => .inr (.inr e))
          have H2b : s = m ∨ s = ((a + b) / 2) ∨ lt (f ((((a + b) / 2) + m) - s - 1)) (f s) = true := H2.elim (fun e => by omega) (fun e => .inr (.inr e))
          obtain ⟨r1, r2, r3, r4, rc⟩ := merge_rot (mid := ((a + b) / 2)) hR.ord hs1 hs2 ham hmb rfl (by omega) H1b H2b
          have hrt := (Mv.rt f (a := s) (m := m) (b := (((a + b) / 2) + m) - s) (by omega) (by omega)).mono (a' := a) (b' := b) (by omega) (by omega)
          refine wp_exit ?_
          refine T_te ?_
          refine T_te ?_
          refine T_be ?_
          refine T_tn ?_
          refine wp_seq ?_
          refine W_region ?_
          refine L (D_v (R_move q17) ?_)
          refine L (D_v (R_move q18) ?_)
          refine L (D_v (R_subN (m := (((a + b) / 2) + m)) (j := s) rfl rfl (by (try simp only [List.length_take, List.length_drop, List.length_append, List.length_cons, List.length_nil, List.length_replicate, List.length_set, Nm.b_len, be2_len]); omega) (by (try simp only [List.length_take, List.length_drop, List.length_append, List.length_cons, List.length_nil, List.length_replicate, List.length_set, Nm.b_len, be2_len]); omega)) ?_)
          refine L (D_v (R_assign rfl) ?_)
          refine S_nil ?_
          refine T_tn ?_
          refine wp_seq ?_
          refine wp_seq ?_
          refine W_region ?_
          refine L (D_v (R_move q18) ?_)
          refine L (D_v (R_move q2) ?_)
          refine L (D_v (R_lssI rfl rfl) ?_)
          refine L (D_v (R_move rfl) ?_)
          refine L (D_g1 rfl rfl (fun hb => R_move q2) ?_)
          refine L (D_g1 rfl rfl (fun hb => R_move rfl) ?_)
          refine L (D_g1 rfl rfl (fun hb => R_lssI (cgE hb) (cgE hb)) ?_)
          refine L (D_v (R_pickA rfl rfl rfl) ?_)
          refine S_nil ?_
          refine T_tn ?_
          refine W_if rfl (fun c5 => ?_) (fun c5 => ?_)
          ·
            have hg : s < m ∧ m < (((a + b) / 2) + m) - s := by have e := c5; simp only [Bool.and_eq_true, decide_eq_true_eq] at e; omega
            refine W_region ?_
            refine L (D_v (R_loadA (c := [lf, sf]) Tryz.isAgg117 Tryz.sizeOf117 hB1_0 q4 rfl rfl) ?_)
            refine L (D_v (R_move q18) ?_)
            refine L (D_v (R_move q2) ?_)
            refine L (D_v (R_move rfl) ?_)
            refine L (D_callS (R_callF Tryz.call131 rfl rfl) (c175 hR (f) (s) (m) (((((a + b) / 2) + m) - s)) _ hG (by omega) (by omega) (by omega)) (fun w15_4 p15_4 => ?_))
            obtain ⟨e15_4, hG⟩ := p15_4
            replace hE := hE.chg e15_4
            replace hB1_0 := hB1_0.chg e15_4 nGB1_0.symm
            refine S_nil ?_
            refine T_tn ?_
            refine wp_seq ?_
            refine wp_seq ?_
            refine W_region ?_
            refine L (D_v (R_move q1) ?_)
            refine L (D_v (R_move q18) ?_)
            refine L (D_v (R_lssI rfl rfl) ?_)
            refine L (D_v (R_move rfl) ?_)
            refine L (D_g1 rfl rfl (fun hb => R_move q18) ?_)
            refine L (D_g1 rfl rfl (fun hb => R_move q16) ?_)
            refine L (D_g1 rfl rfl (fun hb => R_lssI (cgE hb) (cgE hb)) ?_)
            refine L (D_v (R_pickA rfl rfl rfl) ?_)
            refine S_nil ?_
            refine T_tn ?_
            refine W_if rfl (fun c6 => ?_) (fun c6 => ?_)
            ·
              have hu : a < s ∧ s < ((a + b) / 2) := by have e := c6; simp only [Bool.and_eq_true, decide_eq_true_eq] at e; omega
              refine W_region ?_
              refine L (D_v (R_loadA (c := [lf, sf]) Tryz.isAgg117 Tryz.sizeOf117 hB1_0 q4 rfl rfl) ?_)
              refine L (D_v (R_move q1) ?_)
              refine L (D_v (R_move q18) ?_)
              refine L (D_v (R_move q16) ?_)
              refine L (D_callS (R_callF Tryz.call114 rfl rfl) (ih (rt (f) (s) (m) (((((a + b) / 2) + m) - s))) (a) (s) (((a + b) / 2)) _ (by omega) hG (by omega) (by omega) (by omega) r1 r2) (fun w17_4 p17_4 => ?_))
              obtain ⟨e17_4, h17_4, hG, q17_4⟩ := p17_4
              replace hE := hE.chg e17_4
              replace hB1_0 := hB1_0.chg e17_4 nGB1_0.symm
              refine S_nil ?_
              refine T_tn ?_
              refine wp_seq ?_
              refine W_region ?_
              refine L (D_v (R_move q16) ?_)
              refine L (D_v (R_move rfl) ?_)
              refine L (D_v (R_lssI rfl rfl) ?_)
              refine L (D_v (R_move rfl) ?_)
              refine L (D_g1 rfl rfl (fun hb => R_move rfl) ?_)
              refine L (D_g1 rfl rfl (fun hb => R_move q3) ?_)
              refine L (D_g1 rfl rfl (fun hb => R_lssI (cgE hb) (cgE hb)) ?_)
              refine L (D_v (R_pickA rfl rfl rfl) ?_)
              refine S_nil ?_
              refine T_tn ?_
              refine W_if rfl (fun c7 => ?_) (fun c7 => ?_)
              ·
                obtain ⟨m1, z1⟩ := q17_4
                have r3b := srt_same r3 (g := h17_4) fun k k1 k2 => m1.out k (.inr k1)
                have r4b := srt_same r4 (g := h17_4) fun k k1 k2 => m1.out k (.inr (by omega))
                have hv : ((a + b) / 2) < (((a + b) / 2) + m) - s ∧ (((a + b) / 2) + m) - s < b := by have e := c7; simp only [Bool.and_eq_true, decide_eq_true_eq] at e; omega
                refine W_region ?_
                refine L (D_v (R_loadA (c := [lf, sf]) Tryz.isAgg117 Tryz.sizeOf117 hB1_0 q4 rfl rfl) ?_)
                refine L (D_v (R_move q16) ?_)
                refine L (D_v (R_move rfl) ?_)
                refine L (D_v (R_move q3) ?_)
                refine L (D_callS (R_callF Tryz.call114 rfl rfl) (ih (h17_4) (((a + b) / 2)) (((((a + b) / 2) + m) - s)) (b) _ (by omega) hG (by omega) (by omega) (by omega) r3b r4b) (fun w19_4 p19_4 => ?_))
                obtain ⟨e19_4, h19_4, hG, q19_4⟩ := p19_4
                replace hE := hE.chg e19_4
                replace hB1_0 := hB1_0.chg e19_4 nGB1_0.symm
                refine S_nil ?_
                refine ret0n rfl ⟨rfl, hE, ?_⟩
                obtain ⟨m2, z2⟩ := q19_4
                obtain ⟨ma, za⟩ := merge_end (mid := ((a + b) / 2)) (by omega) m1 m2 z1 z2 rc
                exact ⟨_, hG, hrt.trans ma, za⟩
              ·
                obtain ⟨m1, z1⟩ := q17_4
                have r3b := srt_same r3 (g := h17_4) fun k k1 k2 => m1.out k (.inr k1)
                have r4b := srt_same r4 (g := h17_4) fun k k1 k2 => m1.out k (.inr (by omega))
                have hv : ¬ (((a + b) / 2) < (((a + b) / 2) + m) - s ∧ (((a + b) / 2) + m) - s < b) := by have e := c7; simp only [Bool.and_eq_false_iff, decide_eq_false_iff_not] at e; omega
                have m2 := Mv.refl (h17_4) ((a + b) / 2) b
                have z2 : srt lt (h17_4) ((a + b) / 2) b := (Nat.eq_or_lt_of_le (show ((a + b) / 2) ≤ (((a + b) / 2) + m) - s by omega)).elim (fun e => srt_from r4b e) (fun e => srt_mono r3b (Nat.le_refl _) (by omega))
                refine wp_skip ?_
                refine ret0n rfl ⟨rfl, hE, ?_⟩
                obtain ⟨ma, za⟩ := merge_end (mid := ((a + b) / 2)) (by omega) m1 m2 z1 z2 rc
                exact ⟨_, hG, hrt.trans ma, za⟩
            ·
              have hu : ¬ (a < s ∧ s < ((a + b) / 2)) := by have e := c6; simp only [Bool.and_eq_false_iff, decide_eq_false_iff_not] at e; omega
              have m1 := Mv.refl (rt (f) (s) (m) (((((a + b) / 2) + m) - s))) a ((a + b) / 2)
              have z1 : srt lt (rt (f) (s) (m) (((((a + b) / 2) + m) - s))) a ((a + b) / 2) := (Nat.eq_or_lt_of_le (show a ≤ s by omega)).elim (fun e => srt_from r2 e) (fun e => srt_mono r1 (Nat.le_refl _) (by omega))
              refine wp_skip ?_
              refine T_tn ?_
              refine wp_seq ?_
              refine W_region ?_
              refine L (D_v (R_move q16) ?_)
              refine L (D_v (R_move rfl) ?_)
              refine L (D_v (R_lssI rfl rfl) ?_)
              refine L (D_v (R_move rfl) ?_)
              refine L (D_g1 rfl rfl (fun hb => R_move rfl) ?_)
              refine L (D_g1 rfl rfl (fun hb => R_move q3) ?_)
              refine L (D_g1 rfl rfl (fun hb => R_lssI (cgE hb) (cgE hb)) ?_)
              refine L (D_v (R_pickA rfl rfl rfl) ?_)
              refine S_nil ?_
              refine T_tn ?_
              refine W_if rfl (fun c7 => ?_) (fun c7 => ?_)
              ·
                have r3b := srt_same r3 (g := rt (f) (s) (m) (((((a + b) / 2) + m) - s))) fun k k1 k2 => m1.out k (.inr k1)
                have r4b := srt_same r4 (g := rt (f) (s) (m) (((((a + b) / 2) + m) - s))) fun k k1 k2 => m1.out k (.inr (by omega))
                have hv : ((a + b) / 2) < (((a + b) / 2) + m) - s ∧ (((a + b) / 2) + m) - s < b := by have e := c7; simp only [Bool.and_eq_true, decide_eq_true_eq] at e; omega
                refine W_region ?_
                refine L (D_v (R_loadA (c := [lf, sf]) Tryz.isAgg117 Tryz.sizeOf117 hB1_0 q4 rfl rfl) ?_)
                refine L (D_v (R_move q16) ?_)
                refine L (D_v (R_move rfl) ?_)
                refine L (D_v (R_move q3) ?_)
                refine L (D_callS (R_callF Tryz.call114 rfl rfl) (ih (rt (f) (s) (m) (((((a + b) / 2) + m) - s))) (((a + b) / 2)) (((((a + b) / 2) + m) - s)) (b) _ (by omega) hG (by omega) (by omega) (by omega) r3b r4b) (fun w18_4 p18_4 => ?_))
                obtain ⟨e18_4, h18_4, hG, q18_4⟩ := p18_4
                replace hE := hE.chg e18_4
                replace hB1_0 := hB1_0.chg e18_4 nGB1_0.symm
                refine S_nil ?_
                refine ret0n rfl ⟨rfl, hE, ?_⟩
                obtain ⟨m2, z2⟩ := q18_4
                obtain ⟨ma, za⟩ := merge_end (mid := ((a + b) / 2)) (by omega) m1 m2 z1 z2 rc
                exact ⟨_, hG, hrt.trans ma, za⟩
              ·
                have r3b := srt_same r3 (g := rt (f) (s) (m) (((((a + b) / 2) + m) - s))) fun k k1 k2 => m1.out k (.inr k1)
                have r4b := srt_same r4 (g := rt (f) (s) (m) (((((a + b) / 2) + m) - s))) fun k k1 k2 => m1.out k (.inr (by omega))
                have hv : ¬ (((a + b) / 2) < (((a + b) / 2) + m) - s ∧ (((a + b) / 2) + m) - s < b) := by have e := c7; simp only [Bool.and_eq_false_iff, decide_eq_false_iff_not] at e; omega
                have m2 := Mv.refl (rt (f) (s) (m) (((((a + b) / 2) + m) - s))) ((a + b) / 2) b
                have z2 : srt lt (rt (f) (s) (m) (((((a + b) / 2) + m) - s))) ((a + b) / 2) b := (Nat.eq_or_lt_of_le (show ((a + b) / 2) ≤ (((a + b) / 2) + m) - s by omega)).elim (fun e => srt_from r4b e) (fun e => srt_mono r3b (Nat.le_refl _) (by omega))
                refine wp_skip ?_
                refine ret0n rfl ⟨rfl, hE, ?_⟩
                obtain ⟨ma, za⟩ := merge_end (mid := ((a + b) / 2)) (by omega) m1 m2 z1 z2 rc
                exact ⟨_, hG, hrt.trans ma, za⟩
          ·
            have hg : ¬ (s < m ∧ m < (((a + b) / 2) + m) - s) := by have e := c5; simp only [Bool.and_eq_false_iff, decide_eq_false_iff_not] at e; omega
            rw [← rt_id f (a := s) (m := m) (b := (((a + b) / 2) + m) - s) (by omega) (by omega)] at hG
            refine wp_skip ?_
            refine T_tn ?_
            refine wp_seq ?_
            refine wp_seq ?_
            refine W_region ?_
            refine L (D_v (R_move q1) ?_)
            refine L (D_v (R_move q18) ?_)
            refine L (D_v (R_lssI rfl rfl) ?_)
            refine L (D_v (R_move rfl) ?_)
            refine L (D_g1 rfl rfl (fun hb => R_move q18) ?_)
            refine L (D_g1 rfl rfl (fun hb => R_move q16) ?_)
            refine L (D_g1 rfl rfl (fun hb => R_lssI (cgE hb) (cgE hb)) ?_)
            refine L (D_v (R_pickA rfl rfl rfl) ?_)
            refine S_nil ?_
            refine T_tn ?_
            refine W_if rfl (fun c6 => ?_) (fun c6 => ?_)
            ·
              have hu : a < s ∧ s < ((a + b) / 2) := by have e := c6; simp only [Bool.and_eq_true, decide_eq_true_eq] at e; omega
              refine W_region ?_
              refine L (D_v (R_loadA (c := [lf, sf]) Tryz.isAgg117 Tryz.sizeOf117 hB1_0 q4 rfl rfl) ?_)
              refine L (D_v (R_move q1) ?_)
              refine L (D_v (R_move q18) ?_)
              refine L (D_v (R_move q16) ?_)
              refine L (D_callS (R_callF Tryz.call114 rfl rfl) (ih (rt (f) (s) (m) (((((a + b) / 2) + m) - s))) (a) (s) (((a + b) / 2)) _ (by omega) hG (by omega) (by omega) (by omega) r1 r2) (fun w16_4 p16_4 => ?_))
              obtain ⟨e16_4, h16_4, hG, q16_4⟩ := p16_4
              replace hE := hE.chg e16_4
              replace hB1_0 := hB1_0.chg e16_4 nGB1_0.symm
              refine S_nil ?_
              refine T_tn ?_
              refine wp_seq ?_
              refine W_region ?_
              refine L (D_v (R_move q16) ?_)
              refine L (D_v (R_move rfl) ?_)
              refine L (D_v (R_lssI rfl rfl) ?_)
              refine L (D_v (R_move rfl) ?_)
              refine L (D_g1 rfl rfl (fun hb => R_move rfl) ?_)
              refine L (D_g1 rfl rfl (fun hb => R_move q3) ?_)
              refine L (D_g1 rfl rfl (fun hb => R_lssI (cgE hb) (cgE hb)) ?_)
              refine L (D_v (R_pickA rfl rfl rfl) ?_)
              refine S_nil ?_
              refine T_tn ?_
              refine W_if rfl (fun c7 => ?_) (fun c7 => ?_)
              ·
                obtain ⟨m1, z1⟩ := q16_4
                have r3b := srt_same r3 (g := h16_4) fun k k1 k2 => m1.out k (.inr k1)
                have r4b := srt_same r4 (g := h16_4) fun k k1 k2 => m1.out k (.inr (by omega))
                have hv : ((a + b) / 2) < (((a + b) / 2) + m) - s ∧ (((a + b) / 2) + m) - s < b := by have e := c7; simp only [Bool.and_eq_true, decide_eq_true_eq] at e; omega
                refine W_region ?_
                refine L (D_v (R_loadA (c := [lf, sf]) Tryz.isAgg117 Tryz.sizeOf117 hB1_0 q4 rfl rfl) ?_)
                refine L (D_v (R_move q16) ?_)
                refine L (D_v (R_move rfl) ?_)
                refine L (D_v (R_move q3) ?_)
                refine L (D_callS (R_callF Tryz.call114 rfl rfl) (ih (h16_4) (((a + b) / 2)) (((((a + b) / 2) + m) - s)) (b) _ (by omega) hG (by omega) (by omega) (by omega) r3b r4b) (fun w18_4 p18_4 => ?_))
                obtain ⟨e18_4, h18_4, hG, q18_4⟩ := p18_4
                replace hE := hE.chg e18_4
                replace hB1_0 := hB1_0.chg e18_4 nGB1_0.symm
                refine S_nil ?_
                refine ret0n rfl ⟨rfl, hE, ?_⟩
                obtain ⟨m2, z2⟩ := q18_4
                obtain ⟨ma, za⟩ := merge_end (mid := ((a + b) / 2)) (by omega) m1 m2 z1 z2 rc
                exact ⟨_, hG, hrt.trans ma, za⟩
              ·
                obtain ⟨m1, z1⟩ := q16_4
                have r3b := srt_same r3 (g := h16_4) fun k k1 k2 => m1.out k (.inr k1)
                have r4b := srt_same r4 (g := h16_4) fun k k1 k2 => m1.out k (.inr (by omega))
                have hv : ¬ (((a + b) / 2) < (((a + b) / 2) + m) - s ∧ (((a + b) / 2) + m) - s < b) := by have e := c7; simp only [Bool.and_eq_false_iff, decide_eq_false_iff_not] at e; omega
                have m2 := Mv.refl (h16_4) ((a + b) / 2) b
                have z2 : srt lt (h16_4) ((a + b) / 2) b := (Nat.eq_or_lt_of_le (show ((a + b) / 2) ≤ (((a + b) / 2) + m) - s by omega)).elim (fun e => srt_from r4b e) (fun e => srt_mono r3b (Nat.le_refl _) (by omega))
                refine wp_skip ?_
                refine ret0n rfl ⟨rfl, hE, ?_⟩
                obtain ⟨ma, za⟩ := merge_end (mid := ((a + b) / 2)) (by omega) m1 m2 z1 z2 rc
                exact ⟨_, hG, hrt.trans ma, za⟩
            ·
              have hu : ¬ (a < s ∧ s < ((a + b) / 2)) := by have e := c6; simp only [Bool.and_eq_false_iff, decide_eq_false_iff_not] at e; omega
              have m1 := Mv.refl (rt (f) (s) (m) (((((a + b) / 2) + m) - s))) a ((a + b) / 2)
              have z1 : srt lt (rt (f) (s) (m) (((((a + b) / 2) + m) - s))) a ((a + b) / 2) := (Nat.eq_or_lt_of_le (show a ≤ s by omega)).elim (fun e => srt_from r2 e) (fun e => srt_mono r1 (Nat.le_refl _) (by omega))
              refine wp_skip ?_
              refine T_tn ?_
              refine wp_seq ?_
              refine W_region ?_
              refine L (D_v (R_move q16) ?_)
              refine L (D_v (R_move rfl) ?_)
              refine L (D_v (R_lssI rfl rfl) ?_)
              refine L (D_v (R_move rfl) ?_)
              refine L (D_g1 rfl rfl (fun hb => R_move rfl) ?_)
              refine L (D_g1 rfl rfl (fun hb => R_move q3) ?_)
              refine L (D_g1 rfl rfl (fun hb => R_lssI (cgE hb) (cgE hb)) ?_)
              refine L (D_v (R_pickA rfl rfl rfl) ?_)
              refine S_nil ?_
              refine T_tn ?_
              refine W_if rfl (fun c7 => ?_) (fun c7 => ?_)
              ·
                have r3b := srt_same r3 (g := rt (f) (s) (m) (((((a + b) / 2) + m) - s))) fun k k1 k2 => m1.out k (.inr k1)
                have r4b := srt_same r4 (g := rt (f) (s) (m) (((((a + b) / 2) + m) - s))) fun k k1 k2 => m1.out k (.inr (by omega))
                have hv : ((a + b) / 2) < (((a + b) / 2) + m) - s ∧ (((a + b) / 2) + m) - s < b := by have e := c7; simp only [Bool.and_eq_true, decide_eq_true_eq] at e; omega
                refine W_region ?_
                refine L (D_v (R_loadA (c := [lf, sf]) Tryz.isAgg117 Tryz.sizeOf117 hB1_0 q4 rfl rfl) ?_)
                refine L (D_v (R_move q16) ?_)
                refine L (D_v (R_move rfl) ?_)
                refine L (D_v (R_move q3) ?_)
                refine L (D_callS (R_callF Tryz.call114 rfl rfl) (ih (rt (f) (s) (m) (((((a + b) / 2) + m) - s))) (((a + b) / 2)) (((((a + b) / 2) + m) - s)) (b) _ (by omega) hG (by omega) (by omega) (by omega) r3b r4b) (fun w17_4 p17_4 => ?_))
                obtain ⟨e17_4, h17_4, hG, q17_4⟩ := p17_4
                replace hE := hE.chg e17_4
                replace hB1_0 := hB1_0.chg e17_4 nGB1_0.symm
                refine S_nil ?_
                refine ret0n rfl ⟨rfl, hE, ?_⟩
                obtain ⟨m2, z2⟩ := q17_4
                obtain ⟨ma, za⟩ := merge_end (mid := ((a + b) / 2)) (by omega) m1 m2 z1 z2 rc
                exact ⟨_, hG, hrt.trans ma, za⟩
              ·
                have r3b := srt_same r3 (g := rt (f) (s) (m) (((((a + b) / 2) + m) - s))) fun k k1 k2 => m1.out k (.inr k1)
                have r4b := srt_same r4 (g := rt (f) (s) (m) (((((a + b) / 2) + m) - s))) fun k k1 k2 => m1.out k (.inr (by omega))
                have hv : ¬ (((a + b) / 2) < (((a + b) / 2) + m) - s ∧ (((a + b) / 2) + m) - s < b) := by have e := c7; simp only [Bool.and_eq_false_iff, decide_eq_false_iff_not] at e; omega
                have m2 := Mv.refl (rt (f) (s) (m) (((((a + b) / 2) + m) - s))) ((a + b) / 2) b
                have z2 : srt lt (rt (f) (s) (m) (((((a + b) / 2) + m) - s))) ((a + b) / 2) b := (Nat.eq_or_lt_of_le (show ((a + b) / 2) ≤ (((a + b) / 2) + m) - s by omega)).elim (fun e => srt_from r4b e) (fun e => srt_mono r3b (Nat.le_refl _) (by omega))
                refine wp_skip ?_
                refine ret0n rfl ⟨rfl, hE, ?_⟩
                obtain ⟨ma, za⟩ := merge_end (mid := ((a + b) / 2)) (by omega) m1 m2 z1 z2 rc
                exact ⟨_, hG, hrt.trans ma, za⟩
      ·
        have hc : ¬ ((a + b) / 2) < m := by have e := of_decide_eq_false c3; omega
        refine wp_seq ?_
        refine W_region ?_
        refine L (D_v (R_move rfl) ?_)
        refine L (D_v (R_assign rfl) ?_)
        refine S_nil ?_
        refine T_tn ?_
        refine W_region ?_
        refine L (D_v (R_move rfl) ?_)
        refine L (D_v (R_assign rfl) ?_)
        refine S_nil ?_
        refine T_tn ?_
        refine wp_seq ?_
        refine W_region ?_
        refine L (D_v (R_move rfl) ?_)
        refine L (D_v (R_subN (m := (((a + b) / 2) + m)) (j := 1) rfl rfl (by (try simp only [List.length_take, List.length_drop, List.length_append, List.length_cons, List.length_nil, List.length_replicate, List.length_set, Nm.b_len, be2_len]); omega) (by (try simp only [List.length_take, List.length_drop, List.length_append, List.length_cons, List.length_nil, List.length_replicate, List.length_set, Nm.b_len, be2_len]); omega)) ?_)
        refine L (D_v (R_assign rfl) ?_)
        refine S_nil ?_
        refine T_tn ?_
        refine wp_seq ?_
        refine wp_block ?_
        refine W_loop (fun mz g W => ∃ (s : Nat) (r : Nat), mz = r - s ∧ g 1 = i64 ((a : Nat) : Int) ∧ g 2 = i64 ((m : Nat) : Int) ∧ g 3 = i64 ((b : Nat) : Int) ∧ g 4 = .pointer (some ⟨aB1_0, 0, none⟩) ∧ g 16 = i64 ((((a + b) / 2) : Nat) : Int) ∧ g 17 = i64 (((((a + b) / 2) + m) : Nat) : Int) ∧ g 18 = i64 ((s : Nat) : Int) ∧ g 19 = i64 ((r : Nat) : Int) ∧ g 20 = i64 ((((((a + b) / 2) + m) - 1) : Nat) : Int) ∧ Chg gB w W ∧ S (f) W ∧ Blk W aB1_0 [lf, sf] 117 ∧ a ≤ s ∧ s ≤ r ∧ r ≤ m ∧ ((s = a ∨ lt (f ((((a + b) / 2) + m) - s)) (f (s - 1)) = false)) ∧ ((r = m ∨ lt (f ((((a + b) / 2) + m) - r - 1)) (f r) = true))) ⟨a, m, rfl, rfl, rfl, rfl, rfl, rfl, rfl, rfl, rfl, rfl, hE, hG, hB1_0, (by omega), (by omega), (by omega), (.inl rfl), (.inl rfl)⟩ ?_
        rintro mz f11 w11l ⟨s, r, hm, q1, q2, q3, q4, q16, q17, q18, q19, q20, hE, hG, hB1_0, hs0, hsr, hr0, H1, H2⟩
        refine wp_seq ?_
        refine wp_seq ?_
        refine W_region ?_
        refine L (D_v (R_move q18) ?_)
        refine L (D_v (R_move q19) ?_)
        refine L (D_v (R_lssI rfl rfl) ?_)
        refine S_nil ?_
        refine T_tn ?_
        refine W_if rfl (fun c4 => ?_) (fun c4 => ?_)
        ·
          have ls : s < r := by have e := of_decide_eq_true c4; omega
          refine wp_skip ?_
          refine T_tn ?_
          refine wp_block ?_
          refine wp_seq ?_
          refine W_region ?_
          refine L (D_v (R_move q18) ?_)
          refine L (D_v (R_move q19) ?_)
          refine L (D_v (R_addN (m := s) (j := r) rfl rfl (by (try simp only [List.length_take, List.length_drop, List.length_append, List.length_cons, List.length_nil, List.length_replicate, List.length_set, Nm.b_len, be2_len]); omega)) ?_)
          refine L (D_v (R_cvU (m := (s + r)) Tryz.runUnderlying3 Tryz.runUnderlying79 rfl (by (try simp only [List.length_take, List.length_drop, List.length_append, List.length_cons, List.length_nil, List.length_replicate, List.length_set, Nm.b_len, be2_len]); omega)) ?_)
          refine L (D_v (R_shrU (m := (s + r)) rfl rfl) ?_)
          refine L (D_v (R_cvI (m := ((s + r) / 2)) Tryz.runUnderlying79 Tryz.runUnderlying3 rfl (by (try simp only [List.length_take, List.length_drop, List.length_append, List.length_cons, List.length_nil, List.length_replicate, List.length_set, Nm.b_len, be2_len]); omega)) ?_)
          refine L (D_v (R_assign rfl) ?_)
          refine S_nil ?_
          refine T_tn ?_
          refine wp_seq ?_
          refine W_region ?_
          refine L (D_v (R_fieldAddr Tryz.runUnderlying117 rfl Tryz.sizeOf76 q4) ?_)
          refine L (D_v (R_load Tryz.isAgg76 hB1_0 rfl rfl) ?_)
          refine L (D_v (R_move q20) ?_)
          refine L (D_v (R_move rfl) ?_)
          refine L (D_v (R_subN (m := ((((a + b) / 2) + m) - 1)) (j := ((s + r) / 2)) rfl rfl (by (try simp only [List.length_take, List.length_drop, List.length_append, List.length_cons, List.length_nil, List.length_replicate, List.length_set, Nm.b_len, be2_len]); omega) (by (try simp only [List.length_take, List.length_drop, List.length_append, List.length_cons, List.length_nil, List.length_replicate, List.length_set, Nm.b_len, be2_len]); omega)) ?_)
          refine L (D_v (R_move rfl) ?_)
          refine L (D_callV rfl (mapv2 rfl rfl) (hR.less _ _ ((((((a + b) / 2) + m) - 1) - ((s + r) / 2))) (((s + r) / 2)) hG (by (try simp only [List.length_take, List.length_drop, List.length_append, List.length_cons, List.length_nil, List.length_replicate, List.length_set, Nm.b_len, be2_len]); omega) (by (try simp only [List.length_take, List.length_drop, List.length_append, List.length_cons, List.length_nil, List.length_replicate, List.length_set, Nm.b_len, be2_len]); omega)) ?_)
          rintro _ w14_6 ⟨rfl, e14_6⟩
          replace hE := hE.trans e14_6
          replace hG := hR.ext _ _ _ hG e14_6
          replace hB1_0 := hB1_0.ext e14_6
          refine L (D_v (R_not rfl) ?_)
          refine S_nil ?_
          refine T_tn ?_
          refine W_if rfl (fun c5 => ?_) (fun c5 => ?_)
          ·
            have hl : lt (f ((((a + b) / 2) + m) - 1 - (s + r) / 2)) (f ((s + r) / 2)) = false := by simpa using c5
            refine W_region ?_
            refine L (D_v (R_move rfl) ?_)
            refine L (D_v (R_addN (m := ((s + r) / 2)) (j := 1) rfl rfl (by (try simp only [List.length_take, List.length_drop, List.length_append, List.length_cons, List.length_nil, List.length_replicate, List.length_set, Nm.b_len, be2_len]); omega)) ?_)
            refine L (D_v (R_assign rfl) ?_)
            refine S_nil ?_
            refine T_bn ?_
            refine T_tn ?_
            refine ⟨_, _, ?_, rfl, _, _, rfl, q1, q2, q3, q4, q16, q17, rfl, q19, q20, hE, hG, hB1_0, ?_, ?_, ?_, ?_, ?_⟩
            all_goals first | omega | exact H1 | exact H2 | (refine .inr ?_; rw [show (((a + b) / 2) + m) - ((s + r) / 2 + 1) = (((a + b) / 2) + m) - 1 - (s + r) / 2 by omega, show (s + r) / 2 + 1 - 1 = (s + r) / 2 by omega]; exact hl) | (refine .inr ?_; rw [show (((a + b) / 2) + m) - (s + r) / 2 - 1 = (((a + b) / 2) + m) - 1 - (s + r) / 2 by omega]; exact hl)
          ·
            have hl : lt (f ((((a + b) / 2) + m) - 1 - (s + r) / 2)) (f ((s + r) / 2)) = true := by simpa using c5
            refine W_region ?_
            refine L (D_v (R_move rfl) ?_)
            refine L (D_v (R_assign rfl) ?_)
            refine S_nil ?_
            refine T_bn ?_
            refine T_tn ?_
            refine ⟨_, _, ?_, rfl, _, _, rfl, q1, q2, q3, q4, q16, q17, q18, rfl, q20, hE, hG, hB1_0, ?_, ?_, ?_, ?_, ?_⟩
            all_goals first | omega | exact H1 | exact H2 | (refine .inr ?_; rw [show (((a + b) / 2) + m) - ((s + r) / 2 + 1) = (((a + b) / 2) + m) - 1 - (s + r) / 2 by omega, show (s + r) / 2 + 1 - 1 = (s + r) / 2 by omega]; exact hl) | (refine .inr ?_; rw [show (((a + b) / 2) + m) - (s + r) / 2 - 1 = (((a + b) / 2) + m) - 1 - (s + r) / 2 by omega]; exact hl)
        ·
          have ls : ¬ s < r := by have e := of_decide_eq_false c4; omega
          obtain rfl : s = r := by omega
          have H1b : s = a ∨ (((a + b) / 2) + m) - s = b ∨ lt (f ((((a + b) / 2) + m) - s)) (f (s - 1)) = false := H1.elim (fun e => by omega) (fun e => .inr (.inr e))
          have H2b : s = m ∨ s = ((a + b) / 2) ∨ lt (f ((((a + b) / 2) + m) - s - 1)) (f s) = true := H2.elim (fun e => by omega) (fun e => .inr (.inr e))
          obtain ⟨r1, r2, r3, r4, rc⟩ := merge_rot (mid := ((a + b) / 2)) hR.ord hs1 hs2 ham hmb rfl (by omega) H1b H2b
          have hrt := (Mv.rt f (a := s) (m := m) (b := (((a + b) / 2) + m) - s) (by omega) (by omega)).mono (a' := a) (b' := b) (by omega) (by omega)
          refine wp_exit ?_
          refine T_te ?_
          refine T_te ?_
          refine T_be ?_
          refine T_tn ?_
          refine wp_seq ?_
          refine W_region ?_
          refine L (D_v (R_move q17) ?_)
          refine L (D_v (R_move q18) ?_)
          refine L (D_v (R_subN (m := (((a + b) / 2) + m)) (j := s) rfl rfl (by (try simp only [List.length_take, List.length_drop, List.length_append, List.length_cons, List.length_nil, List.length_replicate, List.length_set, Nm.b_len, be2_len]); omega) (by (try simp only [List.length_take, List.length_drop, List.length_append, List.length_cons, List.length_nil, List.length_replicate, List.length_set, Nm.b_len, be2_len]); omega)) ?_)
          refine L (D_v (R_assign rfl) ?_)
          refine S_nil ?_
          refine T_tn ?_
          refine wp_seq ?_
          refine wp_seq ?_
          refine W_region ?_
          refine L (D_v (R_move q18) ?_)
          refine L (D_v (R_move q2) ?_)
          refine L (D_v (R_lssI rfl rfl) ?_)
          refine L (D_v (R_move rfl) ?_)
          refine L (D_g1 rfl rfl (fun hb => R_move q2) ?_)
          refine L (D_g1 rfl rfl (fun hb => R_move rfl) ?_)
          refine L (D_g1 rfl rfl (fun hb => R_lssI (cgE hb) (cgE hb)) ?_)
          refine L (D_v (R_pickA rfl rfl rfl) ?_)
          refine S_nil ?_
          refine T_tn ?_
          refine W_if rfl (fun c5 => ?_) (fun c5 => ?_)
          ·
            have hg : s < m ∧ m < (((a + b) / 2) + m) - s := by have e := c5; simp only [Bool.and_eq_true, decide_eq_true_eq] at e; omega
            refine W_region ?_
            refine L (D_v (R_loadA (c := [lf, sf]) Tryz.isAgg117 Tryz.sizeOf117 hB1_0 q4 rfl rfl) ?_)
            refine L (D_v (R_move q18) ?_)
            refine L (D_v (R_move q2) ?_)
            refine L (D_v (R_move rfl) ?_)
            refine L (D_callS (R_callF Tryz.call131 rfl rfl) (c175 hR (f) (s) (m) (((((a + b) / 2) + m) - s)) _ hG (by omega) (by omega) (by omega)) (fun w15_4 p15_4 => ?_))
            obtain ⟨e15_4, hG⟩ := p15_4
            replace hE := hE.chg e15_4
            replace hB1_0 := hB1_0.chg e15_4 nGB1_0.symm
            refine S_nil ?_
            refine T_tn ?_
            refine wp_seq ?_
            refine wp_seq ?_
            refine W_region ?_
            refine L (D_v (R_move q1) ?_)
            refine L (D_v (R_move q18) ?_)
            refine L (D_v (R_lssI rfl rfl) ?_)
            refine L (D_v (R_move rfl) ?_)
            refine L (D_g1 rfl rfl (fun hb => R_move q18) ?_)
            refine L (D_g1 rfl rfl (fun hb => R_move q16) ?_)
            refine L (D_g1 rfl rfl (fun hb => R_lssI (cgE hb) (cgE hb)) ?_)
            refine L (D_v (R_pickA rfl rfl rfl) ?_)
            refine S_nil ?_
            refine T_tn ?_
            refine W_if rfl (fun c6 => ?_) (fun c6 => ?_)
            ·
              have hu : a < s ∧ s < ((a + b) / 2) := by have e := c6; simp only [Bool.and_eq_true, decide_eq_true_eq] at e; omega
              refine W_region ?_
              refine L (D_v (R_loadA (c := [lf, sf]) Tryz.isAgg117 Tryz.sizeOf117 hB1_0 q4 rfl rfl) ?_)
              refine L (D_v (R_move q1) ?_)
              refine L (D_v (R_move q18) ?_)
              refine L (D_v (R_move q16) ?_)
              refine L (D_callS (R_callF Tryz.call114 rfl rfl) (ih (rt (f) (s) (m) (((((a + b) / 2) + m) - s))) (a) (s) (((a + b) / 2)) _ (by omega) hG (by omega) (by omega) (by omega) r1 r2) (fun w17_4 p17_4 => ?_))
              obtain ⟨e17_4, h17_4, hG, q17_4⟩ := p17_4
              replace hE := hE.chg e17_4
              replace hB1_0 := hB1_0.chg e17_4 nGB1_0.symm
              refine S_nil ?_
              refine T_tn ?_
              refine wp_seq ?_
              refine W_region ?_
              refine L (D_v (R_move q16) ?_)
              refine L (D_v (R_move rfl) ?_)
              refine L (D_v (R_lssI rfl rfl) ?_)
              refine L (D_v (R_move rfl) ?_)
              refine L (D_g1 rfl rfl (fun hb => R_move rfl) ?_)
              refine L (D_g1 rfl rfl (fun hb => R_move q3) ?_)
              refine L (D_g1 rfl rfl (fun hb => R_lssI (cgE hb) (cgE hb)) ?_)
              refine L (D_v (R_pickA rfl rfl rfl) ?_)
              refine S_nil ?_
              refine T_tn ?_
              refine W_if rfl (fun c7 => ?_) (fun c7 => ?_)
              ·
                obtain ⟨m1, z1⟩ := q17_4
                have r3b := srt_same r3 (g := h17_4) fun k k1 k2 => m1.out k (.inr k1)
                have r4b := srt_same r4 (g := h17_4) fun k k1 k2 => m1.out k (.inr (by omega))
                have hv : ((a + b) / 2) < (((a + b) / 2) + m) - s ∧ (((a + b) / 2) + m) - s < b := by have e := c7; simp only [Bool.and_eq_true, decide_eq_true_eq] at e; omega
                refine W_region ?_
                refine L (D_v (R_loadA (c := [lf, sf]) Tryz.isAgg117 Tryz.sizeOf117 hB1_0 q4 rfl rfl) ?_)
                refine L (D_v (R_move q16) ?_)
                refine L (D_v (R_move rfl) ?_)
                refine L (D_v (R_move q3) ?_)
                refine L (D_callS (R_callF Tryz.call114 rfl rfl) (ih (h17_4) (((a + b) / 2)) (((((a + b) / 2) + m) - s)) (b) _ (by omega) hG (by omega) (by omega) (by omega) r3b r4b) (fun w19_4 p19_4 => ?_))
                obtain ⟨e19_4, h19_4, hG, q19_4⟩ := p19_4
                replace hE := hE.chg e19_4
                replace hB1_0 := hB1_0.chg e19_4 nGB1_0.symm
                refine S_nil ?_
                refine ret0n rfl ⟨rfl, hE, ?_⟩
                obtain ⟨m2, z2⟩ := q19_4
                obtain ⟨ma, za⟩ := merge_end (mid := ((a + b) / 2)) (by omega) m1 m2 z1 z2 rc
                exact ⟨_, hG, hrt.trans ma, za⟩
              ·
                obtain ⟨m1, z1⟩ := q17_4
                have r3b := srt_same r3 (g := h17_4) fun k k1 k2 => m1.out k (.inr k1)
                have r4b := srt_same r4 (g := h17_4) fun k k1 k2 => m1.out k (.inr (by omega))
                have hv : ¬ (((a + b) / 2) < (((a + b) / 2) + m) - s ∧ (((a + b) / 2) + m) - s < b) := by have e := c7; simp only [Bool.and_eq_false_iff, decide_eq_false_iff_not] at e; omega
                have m2 := Mv.refl (h17_4) ((a + b) / 2) b
                have z2 : srt lt (h17_4) ((a + b) / 2) b := (Nat.eq_or_lt_of_le (show ((a + b) / 2) ≤ (((a + b) / 2) + m) - s by omega)).elim (fun e => srt_from r4b e) (fun e => srt_mono r3b (Nat.le_refl _) (by omega))
                refine wp_skip ?_
                refine ret0n rfl ⟨rfl, hE, ?_⟩
                obtain ⟨ma, za⟩ := merge_end (mid := ((a + b) / 2)) (by omega) m1 m2 z1 z2 rc
                exact ⟨_, hG, hrt.trans ma, za⟩
            ·
              have hu : ¬ (a < s ∧ s < ((a + b) / 2)) := by have e := c6; simp only [Bool.and_eq_false_iff, decide_eq_false_iff_not] at e; omega
              have m1 := Mv.refl (rt (f) (s) (m) (((((a + b) / 2) + m) - s))) a ((a + b) / 2)
              have z1 : srt lt (rt (f) (s) (m) (((((a + b) / 2) + m) - s))) a ((a + b) / 2) := (Nat.eq_or_lt_of_le (show a ≤ s by omega)).elim (fun e => srt_from r2 e) (fun e => srt_mono r1 (Nat.le_refl _) (by omega))
              refine wp_skip ?_
              refine T_tn ?_
              refine wp_seq ?_
              refine W_region ?_
              refine L (D_v (R_move q16) ?_)
              refine L (D_v (R_move rfl) ?_)
              refine L (D_v (R_lssI rfl rfl) ?_)
              refine L (D_v (R_move rfl) ?_)
              refine L (D_g1 rfl rfl (fun hb => R_move rfl) ?_)
              refine L (D_g1 rfl rfl (fun hb => R_move q3) ?_)
              refine L (D_g1 rfl rfl (fun hb => R_lssI (cgE hb) (cgE hb)) ?_)
              refine L (D_v (R_pickA rfl rfl rfl) ?_)
              refine S_nil ?_
              refine T_tn ?_
              refine W_if rfl (fun c7 => ?_) (fun c7 => ?_)
              ·
                have r3b := srt_same r3 (g := rt (f) (s) (m) (((((a + b) / 2) + m) - s))) fun k k1 k2 => m1.out k (.inr k1)
                have r4b := srt_same r4 (g := rt (f) (s) (m) (((((a + b) / 2) + m) - s))) fun k k1 k2 => m1.out k (.inr (by omega))
                have hv : ((a + b) / 2) < (((a + b) / 2) + m) - s ∧ (((a + b) / 2) + m) - s < b := by have e := c7; simp only [Bool.and_eq_true, decide_eq_true_eq] at e; omega
                refine W_region ?_
                refine L (D_v (R_loadA (c := [lf, sf]) Tryz.isAgg117 Tryz.sizeOf117 hB1_0 q4 rfl rfl) ?_)
                refine L (D_v (R_move q16) ?_)
                refine L (D_v (R_move rfl) ?_)
                refine L (D_v (R_move q3) ?_)
                refine L (D_callS (R_callF Tryz.call114 rfl rfl) (ih (rt (f) (s) (m) (((((a + b) / 2) + m) - s))) (((a + b) / 2)) (((((a + b) / 2) + m) - s)) (b) _ (by omega) hG (by omega) (by omega) (by omega) r3b r4b) (fun w18_4 p18_4 => ?_))
                obtain ⟨e18_4, h18_4, hG, q18_4⟩ := p18_4
                replace hE := hE.chg e18_4
                replace hB1_0 := hB1_0.chg e18_4 nGB1_0.symm
                refine S_nil ?_
                refine ret0n rfl ⟨rfl, hE, ?_⟩
                obtain ⟨m2, z2⟩ := q18_4
                obtain ⟨ma, za⟩ := merge_end (mid := ((a + b) / 2)) (by omega) m1 m2 z1 z2 rc
                exact ⟨_, hG, hrt.trans ma, za⟩
              ·
                have r3b := srt_same r3 (g := rt (f) (s) (m) (((((a + b) / 2) + m) - s))) fun k k1 k2 => m1.out k (.inr k1)
                have r4b := srt_same r4 (g := rt (f) (s) (m) (((((a + b) / 2) + m) - s))) fun k k1 k2 => m1.out k (.inr (by omega))
                have hv : ¬ (((a + b) / 2) < (((a + b) / 2) + m) - s ∧ (((a + b) / 2) + m) - s < b) := by have e := c7; simp only [Bool.and_eq_false_iff, decide_eq_false_iff_not] at e; omega
                have m2 := Mv.refl (rt (f) (s) (m) (((((a + b) / 2) + m) - s))) ((a + b) / 2) b
                have z2 : srt lt (rt (f) (s) (m) (((((a + b) / 2) + m) - s))) ((a + b) / 2) b := (Nat.eq_or_lt_of_le (show ((a + b) / 2) ≤ (((a + b) / 2) + m) - s by omega)).elim (fun e => srt_from r4b e) (fun e => srt_mono r3b (Nat.le_refl _) (by omega))
                refine wp_skip ?_
                refine ret0n rfl ⟨rfl, hE, ?_⟩
                obtain ⟨ma, za⟩ := merge_end (mid := ((a + b) / 2)) (by omega) m1 m2 z1 z2 rc
                exact ⟨_, hG, hrt.trans ma, za⟩
          ·
            have hg : ¬ (s < m ∧ m < (((a + b) / 2) + m) - s) := by have e := c5; simp only [Bool.and_eq_false_iff, decide_eq_false_iff_not] at e; omega
            rw [← rt_id f (a := s) (m := m) (b := (((a + b) / 2) + m) - s) (by omega) (by omega)] at hG
            refine wp_skip ?_
            refine T_tn ?_
            refine wp_seq ?_
            refine wp_seq ?_
            refine W_region ?_
            refine L (D_v (R_move q1) ?_)
            refine L (D_v (R_move q18) ?_)
            refine L (D_v (R_lssI rfl rfl) ?_)
            refine L (D_v (R_move rfl) ?_)
            refine L (D_g1 rfl rfl (fun hb => R_move q18) ?_)
            refine L (D_g1 rfl rfl (fun hb => R_move q16) ?_)
            refine L (D_g1 rfl rfl (fun hb => R_lssI (cgE hb) (cgE hb)) ?_)
            refine L (D_v (R_pickA rfl rfl rfl) ?_)
            refine S_nil ?_
            refine T_tn ?_
            refine W_if rfl (fun c6 => ?_) (fun c6 => ?_)
            ·
              have hu : a < s ∧ s < ((a + b) / 2) := by have e := c6; simp only [Bool.and_eq_true, decide_eq_true_eq] at e; omega
              refine W_region ?_
              refine L (D_v (R_loadA (c := [lf, sf]) Tryz.isAgg117 Tryz.sizeOf117 hB1_0 q4 rfl rfl) ?_)
              refine L (D_v (R_move q1) ?_)
              refine L (D_v (R_move q18) ?_)
              refine L (D_v (R_move q16) ?_)
              refine L (D_callS (R_callF Tryz.call114 rfl rfl) (ih (rt (f) (s) (m) (((((a + b) / 2) + m) - s))) (a) (s) (((a + b) / 2)) _ (by omega) hG (by omega) (by omega) (by omega) r1 r2) (fun w16_4 p16_4 => ?_))
              obtain ⟨e16_4, h16_4, hG, q16_4⟩ := p16_4
              replace hE := hE.chg e16_4
              replace hB1_0 := hB1_0.chg e16_4 nGB1_0.symm
              refine S_nil ?_
              refine T_tn ?_
              refine wp_seq ?_
              refine W_region ?_
              refine L (D_v (R_move q16) ?_)
              refine L (D_v (R_move rfl) ?_)
              refine L (D_v (R_lssI rfl rfl) ?_)
              refine L (D_v (R_move rfl) ?_)
              refine L (D_g1 rfl rfl (fun hb => R_move rfl) ?_)
              refine L (D_g1 rfl rfl (fun hb => R_move q3) ?_)
              refine L (D_g1 rfl rfl (fun hb => R_lssI (cgE hb) (cgE hb)) ?_)
              refine L (D_v (R_pickA rfl rfl rfl) ?_)
              refine S_nil ?_
              refine T_tn ?_
              refine W_if rfl (fun c7 => ?_) (fun c7 => ?_)
              ·
                obtain ⟨m1, z1⟩ := q16_4
                have r3b := srt_same r3 (g := h16_4) fun k k1 k2 => m1.out k (.inr k1)
                have r4b := srt_same r4 (g := h16_4) fun k k1 k2 => m1.out k (.inr (by omega))
                have hv : ((a + b) / 2) < (((a + b) / 2) + m) - s ∧ (((a + b) / 2) + m) - s < b := by have e := c7; simp only [Bool.and_eq_true, decide_eq_true_eq] at e; omega
                refine W_region ?_
                refine L (D_v (R_loadA (c := [lf, sf]) Tryz.isAgg117 Tryz.sizeOf117 hB1_0 q4 rfl rfl) ?_)
                refine L (D_v (R_move q16) ?_)
                refine L (D_v (R_move rfl) ?_)
                refine L (D_v (R_move q3) ?_)
                refine L (D_callS (R_callF Tryz.call114 rfl rfl) (ih (h16_4) (((a + b) / 2)) (((((a + b) / 2) + m) - s)) (b) _ (by omega) hG (by omega) (by omega) (by omega) r3b r4b) (fun w18_4 p18_4 => ?_))
                obtain ⟨e18_4, h18_4, hG, q18_4⟩ := p18_4
                replace hE := hE.chg e18_4
                replace hB1_0 := hB1_0.chg e18_4 nGB1_0.symm
                refine S_nil ?_
                refine ret0n rfl ⟨rfl, hE, ?_⟩
                obtain ⟨m2, z2⟩ := q18_4
                obtain ⟨ma, za⟩ := merge_end (mid := ((a + b) / 2)) (by omega) m1 m2 z1 z2 rc
                exact ⟨_, hG, hrt.trans ma, za⟩
              ·
                obtain ⟨m1, z1⟩ := q16_4
                have r3b := srt_same r3 (g := h16_4) fun k k1 k2 => m1.out k (.inr k1)
                have r4b := srt_same r4 (g := h16_4) fun k k1 k2 => m1.out k (.inr (by omega))
                have hv : ¬ (((a + b) / 2) < (((a + b) / 2) + m) - s ∧ (((a + b) / 2) + m) - s < b) := by have e := c7; simp only [Bool.and_eq_false_iff, decide_eq_false_iff_not] at e; omega
                have m2 := Mv.refl (h16_4) ((a + b) / 2) b
                have z2 : srt lt (h16_4) ((a + b) / 2) b := (Nat.eq_or_lt_of_le (show ((a + b) / 2) ≤ (((a + b) / 2) + m) - s by omega)).elim (fun e => srt_from r4b e) (fun e => srt_mono r3b (Nat.le_refl _) (by omega))
                refine wp_skip ?_
                refine ret0n rfl ⟨rfl, hE, ?_⟩
                obtain ⟨ma, za⟩ := merge_end (mid := ((a + b) / 2)) (by omega) m1 m2 z1 z2 rc
                exact ⟨_, hG, hrt.trans ma, za⟩
            ·
              have hu : ¬ (a < s ∧ s < ((a + b) / 2)) := by have e := c6; simp only [Bool.and_eq_false_iff, decide_eq_false_iff_not] at e; omega
              have m1 := Mv.refl (rt (f) (s) (m) (((((a + b) / 2) + m) - s))) a ((a + b) / 2)
              have z1 : srt lt (rt (f) (s) (m) (((((a + b) / 2) + m) - s))) a ((a + b) / 2) := (Nat.eq_or_lt_of_le (show a ≤ s by omega)).elim (fun e => srt_from r2 e) (fun e => srt_mono r1 (Nat.le_refl _) (by omega))
              refine wp_skip ?_
              refine T_tn ?_
              refine wp_seq ?_
              refine W_region ?_
              refine L (D_v (R_move q16) ?_)
              refine L (D_v (R_move rfl) ?_)
              refine L (D_v (R_lssI rfl rfl) ?_)
              refine L (D_v (R_move rfl) ?_)
              refine L (D_g1 rfl rfl (fun hb => R_move rfl) ?_)
              refine L (D_g1 rfl rfl (fun hb => R_move q3) ?_)
              refine L (D_g1 rfl rfl (fun hb => R_lssI (cgE hb) (cgE hb)) ?_)
              refine L (D_v (R_pickA rfl rfl rfl) ?_)
              refine S_nil ?_
              refine T_tn ?_
              refine W_if rfl (fun c7 => ?_) (fun c7 => ?_)
              ·
                have r3b := srt_same r3 (g := rt (f) (s) (m) (((((a + b) / 2) + m) - s))) fun k k1 k2 => m1.out k (.inr k1)
                have r4b := srt_same r4 (g := rt (f) (s) (m) (((((a + b) / 2) + m) - s))) fun k k1 k2 => m1.out k (.inr (by omega))
                have hv : ((a + b) / 2) < (((a + b) / 2) + m) - s ∧ (((a + b) / 2) + m) - s < b := by have e := c7; simp only [Bool.and_eq_true, decide_eq_true_eq] at e; omega
                refine W_region ?_
                refine L (D_v (R_loadA (c := [lf, sf]) Tryz.isAgg117 Tryz.sizeOf117 hB1_0 q4 rfl rfl) ?_)
                refine L (D_v (R_move q16) ?_)
                refine L (D_v (R_move rfl) ?_)
                refine L (D_v (R_move q3) ?_)
                refine L (D_callS (R_callF Tryz.call114 rfl rfl) (ih (rt (f) (s) (m) (((((a + b) / 2) + m) - s))) (((a + b) / 2)) (((((a + b) / 2) + m) - s)) (b) _ (by omega) hG (by omega) (by omega) (by omega) r3b r4b) (fun w17_4 p17_4 => ?_))
                obtain ⟨e17_4, h17_4, hG, q17_4⟩ := p17_4
                replace hE := hE.chg e17_4
                replace hB1_0 := hB1_0.chg e17_4 nGB1_0.symm
                refine S_nil ?_
                refine ret0n rfl ⟨rfl, hE, ?_⟩
                obtain ⟨m2, z2⟩ := q17_4
                obtain ⟨ma, za⟩ := merge_end (mid := ((a + b) / 2)) (by omega) m1 m2 z1 z2 rc
                exact ⟨_, hG, hrt.trans ma, za⟩
              ·
                have r3b := srt_same r3 (g := rt (f) (s) (m) (((((a + b) / 2) + m) - s))) fun k k1 k2 => m1.out k (.inr k1)
                have r4b := srt_same r4 (g := rt (f) (s) (m) (((((a + b) / 2) + m) - s))) fun k k1 k2 => m1.out k (.inr (by omega))
                have hv : ¬ (((a + b) / 2) < (((a + b) / 2) + m) - s ∧ (((a + b) / 2) + m) - s < b) := by have e := c7; simp only [Bool.and_eq_false_iff, decide_eq_false_iff_not] at e; omega
                have m2 := Mv.refl (rt (f) (s) (m) (((((a + b) / 2) + m) - s))) ((a + b) / 2) b
                have z2 : srt lt (rt (f) (s) (m) (((((a + b) / 2) + m) - s))) ((a + b) / 2) b := (Nat.eq_or_lt_of_le (show ((a + b) / 2) ≤ (((a + b) / 2) + m) - s by omega)).elim (fun e => srt_from r4b e) (fun e => srt_mono r3b (Nat.le_refl _) (by omega))
                refine wp_skip ?_
                refine ret0n rfl ⟨rfl, hE, ?_⟩
                obtain ⟨ma, za⟩ := merge_end (mid := ((a + b) / 2)) (by omega) m1 m2 z1 z2 rc
                exact ⟨_, hG, hrt.trans ma, za⟩
theorem c156 {α : Type} {S : (Nat → α) → World → Prop} {gB n : Nat} {lf sf : Value} {lt : α → α → Bool} (hR : Srt Tryz.prog S gB n lf sf lt) (N : Nat) : ∀ (f : Nat → α) (a m b : Nat) (w : World), b - a ≤ N → S f w → a < m → m < b → b ≤ n → srt lt f a m → srt lt f m b → Calls Tryz.prog 114 [.agg #[lf, sf], i64 ((a : Nat) : Int), i64 ((m : Nat) : Int), i64 ((b : Nat) : Int)].toArray w (RetS gB w fun w2 => ∃ f', S f' w2 ∧ Mv f f' a b ∧ srt lt f' a b) := by
  induction N with
  | zero => intro f a m b w h1 h2 h3 h4; omega
  | succ N ih => exact fun f a m b w h1 h2 h3 h4 h5 h6 h7 => c156s hR f N ih a m b w h2 h1 h3 h4 h5 h6 h7
set_option maxRecDepth 4000 in
set_option maxHeartbeats 8000000 in
theorem c126 {α : Type} {S : (Nat → α) → World → Prop} {gB n : Nat} {lf sf : Value} {lt : α → α → Bool} (hR : Srt Tryz.prog S gB n lf sf lt) (f : Nat → α)  (w : World) (hG : S f w) : Calls Tryz.prog 83 [.agg #[lf, sf], i64 ((n : Nat) : Int)].toArray w (RetS gB w fun w2 => ∃ f', S f' w2 ∧ Mv f f' 0 n ∧ srt lt f' 0 n) := by
  refine enter Tryz.func83 Tryz.ntmps83 rfl rfl ?_
  have hE := Chg.refl gB w
  have hnb := hR.nb
  have hlp := hR.lp
  have hsp := hR.sp
  refine wp_seq ?_
  refine W_region ?_
  refine L (D_box (c := [lf, sf]) (rfl) (fun aB1_0 w1_0 e1_0 gB1_0 hB1_0 => ?_))
  have lB1_0 := Nat.le_trans hE.size gB1_0
  have nGB1_0 := Nat.ne_of_lt (Nat.lt_of_lt_of_le (hR.bound _ _ hG) gB1_0)
  replace hE := hE.trans e1_0
  replace hG := hR.ext _ _ _ hG e1_0
  refine S_nil ?_
  refine T_tn ?_
  refine wp_seq ?_
  refine W_region ?_
  refine L (D_v (R_assign rfl) ?_)
  refine S_nil ?_
  refine T_tn ?_
  refine wp_seq ?_
  refine W_region ?_
  refine L (D_v (R_move rfl) ?_)
  refine L (D_v (R_assign rfl) ?_)
  refine L (D_v (R_assign rfl) ?_)
  refine S_nil ?_
  refine T_tn ?_
  refine wp_seq ?_
  refine wp_block ?_
  refine W_loop (fun mz g W => ∃ (a : Nat) (h : Nat → α), mz = n - a ∧ g 1 = i64 ((n : Nat) : Int) ∧ g 2 = .pointer (some ⟨aB1_0, 0, none⟩) ∧ g 4 = i64 (20) ∧ g 5 = i64 ((a : Nat) : Int) ∧ g 6 = i64 ((a + 20 : Nat) : Int) ∧ Chg gB w W ∧ S (h) W ∧ Blk W aB1_0 [lf, sf] 117 ∧ a ≤ n ∧ 20 ∣ a ∧ Mv f h 0 n ∧ don lt h a 20) ⟨0, f, rfl, rfl, rfl, rfl, rfl, rfl, hE, hG, hB1_0, (Nat.zero_le _), (by decide), (Mv.refl _ _ _), (don_start _ (by decide))⟩ ?_
  rintro mz f4 w4l ⟨a, h, hm, q1, q2, q4, q5, q6, hE, hG, hB1_0, han, hda, hmv, hdo⟩
  refine wp_seq ?_
  refine wp_seq ?_
  refine W_region ?_
  refine L (D_v (R_move q6) ?_)
  refine L (D_v (R_move q1) ?_)
  refine L (D_v (R_leqI rfl rfl) ?_)
  refine S_nil ?_
  refine T_tn ?_
  refine W_if rfl (fun c1 => ?_) (fun c1 => ?_)
  ·
    have l1 : a + 20 ≤ n := by have e := of_decide_eq_true c1; omega
    refine wp_skip ?_
    refine T_tn ?_
    refine wp_block ?_
    refine wp_seq ?_
    refine W_region ?_
    refine L (D_v (R_loadA (c := [lf, sf]) Tryz.isAgg117 Tryz.sizeOf117 hB1_0 q2 rfl rfl) ?_)
    refine L (D_v (R_move q5) ?_)
    refine L (D_v (R_move q6) ?_)
    refine L (D_callS (R_callF Tryz.call113 rfl rfl) (c155 hR (h) (a) ((a + 20)) _ hG (by omega) (by omega)) (fun w6_3 p6_3 => ?_))
    obtain ⟨e6_3, h6_3, hG, q6_3⟩ := p6_3
    replace hE := hE.chg e6_3
    replace hB1_0 := hB1_0.chg e6_3 nGB1_0.symm
    refine S_nil ?_
    refine T_tn ?_
    refine wp_seq ?_
    refine W_region ?_
    refine L (D_v (R_move q6) ?_)
    refine L (D_v (R_assign rfl) ?_)
    refine S_nil ?_
    refine T_tn ?_
    refine W_region ?_
    refine L (D_v (R_move q6) ?_)
    refine L (D_v (R_move q4) ?_)
    refine L (D_v (R_addN (m := (a + 20)) (j := 20) rfl rfl (by (try simp only [List.length_take, List.length_drop, List.length_append, List.length_cons, List.length_nil, List.length_replicate, List.length_set, Nm.b_len, be2_len]); omega)) ?_)
    refine L (D_v (R_assign rfl) ?_)
    refine S_nil ?_
    refine T_bn ?_
    refine T_tn ?_
    have z1q := q6_3
    refine ⟨_, _, ?_, rfl, _, _, rfl, q1, q2, q4, rfl, rfl, hE, hG, hB1_0, ?_, ?_, ?_, ?_⟩
    all_goals first | omega | exact hmv.trans (z1q.1.mono (by omega) (by omega)) | exact don_step hdo z1q.1 z1q.2 hda
  ·
    have l1 : ¬ a + 20 ≤ n := by have e := of_decide_eq_false c1; omega
    refine wp_exit ?_
    refine T_te ?_
    refine T_te ?_
    refine T_be ?_
    refine T_tn ?_
    refine wp_seq ?_
    refine W_region ?_
    refine L (D_v (R_loadA (c := [lf, sf]) Tryz.isAgg117 Tryz.sizeOf117 hB1_0 q2 rfl rfl) ?_)
    refine L (D_v (R_move q5) ?_)
    refine L (D_v (R_move q1) ?_)
    refine L (D_callS (R_callF Tryz.call113 rfl rfl) (c155 hR (h) (a) (n) _ hG (by omega) (by omega)) (fun w6_3 p6_3 => ?_))
    obtain ⟨e6_3, h6_3, hG, q6_3⟩ := p6_3
    replace hE := hE.chg e6_3
    replace hB1_0 := hB1_0.chg e6_3 nGB1_0.symm
    refine S_nil ?_
    refine T_tn ?_
    refine wp_block ?_
    have z1q := q6_3
    have hmv2 := hmv.trans (z1q.1.mono (Nat.zero_le _) (Nat.le_refl _))
    have hbk := bks_end hdo z1q.1 z1q.2 hda han (by omega)
    refine W_loop (fun mz g W => ∃ (d : Nat) (h : Nat → α), mz = n - d ∧ g 1 = i64 ((n : Nat) : Int) ∧ g 2 = .pointer (some ⟨aB1_0, 0, none⟩) ∧ g 4 = i64 ((d : Nat) : Int) ∧ Chg gB w W ∧ S (h) W ∧ Blk W aB1_0 [lf, sf] 117 ∧ 20 ≤ d ∧ d ≤ 2000000 ∧ Mv f h 0 n ∧ bks lt h d n) ⟨_, _, rfl, q1, q2, q4, hE, hG, hB1_0, (Nat.le_refl _), (by decide), hmv2, hbk⟩ ?_
    rintro mz f7 w7l ⟨d, h, hm, q1, q2, q4, hE, hG, hB1_0, hd, hdb, hmv, hbk⟩
    refine wp_seq ?_
    refine wp_seq ?_
    refine W_region ?_
    refine L (D_v (R_move q4) ?_)
    refine L (D_v (R_move q1) ?_)
    refine L (D_v (R_lssI rfl rfl) ?_)
    refine S_nil ?_
    refine T_tn ?_
    refine W_if rfl (fun c2 => ?_) (fun c2 => ?_)
    ·
      have l2 : d < n := by have e := of_decide_eq_true c2; omega
      refine wp_skip ?_
      refine T_tn ?_
      refine wp_block ?_
      refine wp_seq ?_
      refine W_region ?_
      refine L (D_v (R_move q4) ?_)
      refine L (D_v (R_mulN (m := 2) (j := d) rfl rfl (by (try simp only [List.length_take, List.length_drop, List.length_append, List.length_cons, List.length_nil, List.length_replicate, List.length_set, Nm.b_len, be2_len]); omega)) ?_)
      refine L (D_v (R_assign rfl) ?_)
      refine L (D_v (R_assign rfl) ?_)
      refine S_nil ?_
      refine T_tn ?_
      refine wp_seq ?_
      refine wp_block ?_
      refine W_loop (fun mz g W => ∃ (a : Nat) (h2 : Nat → α), mz = n - a ∧ g 1 = i64 ((n : Nat) : Int) ∧ g 2 = .pointer (some ⟨aB1_0, 0, none⟩) ∧ g 4 = i64 ((d : Nat) : Int) ∧ g 5 = i64 ((a : Nat) : Int) ∧ g 6 = i64 ((a + 2 * d : Nat) : Int) ∧ Chg gB w W ∧ S (h2) W ∧ Blk W aB1_0 [lf, sf] 117 ∧ a ≤ n ∧ 2 * d ∣ a ∧ Mv f h2 0 n ∧ don lt h2 a (2 * d) ∧ rst lt h2 a d n) ⟨0, _, rfl, q1, q2, q4, rfl, (congrArg (fun z : Nat => i64 (z : Int)) (by omega)), hE, hG, hB1_0, (Nat.zero_le _), (Nat.dvd_zero _), hmv, (don_start _ (by omega)), (rst_start hbk)⟩ ?_
      rintro mz f10 w10l ⟨a, h2, hm, q1, q2, q4, q5, q6, hE, hG, hB1_0, han, hda, hm2, hdo, hrs⟩
      refine wp_seq ?_
      refine wp_seq ?_
      refine W_region ?_
      refine L (D_v (R_move q6) ?_)
      refine L (D_v (R_move q1) ?_)
      refine L (D_v (R_leqI rfl rfl) ?_)
      refine S_nil ?_
      refine T_tn ?_
      refine W_if rfl (fun c3 => ?_) (fun c3 => ?_)
      ·
        have l3 : a + 2 * d ≤ n := by have e := of_decide_eq_true c3; omega
        have p1 : srt lt h2 a (a + d) := srt_to (hrs a (dv_two hda) (Nat.le_refl _)) (by omega)
        have p2 : srt lt h2 (a + d) (a + 2 * d) := srt_to (hrs (a + d) (dv_add (dv_two hda)) (by omega)) (by omega)
        refine wp_skip ?_
        refine T_tn ?_
        refine wp_block ?_
        refine wp_seq ?_
        refine W_region ?_
        refine L (D_v (R_loadA (c := [lf, sf]) Tryz.isAgg117 Tryz.sizeOf117 hB1_0 q2 rfl rfl) ?_)
        refine L (D_v (R_move q5) ?_)
        refine L (D_v (R_move q5) ?_)
        refine L (D_v (R_move q4) ?_)
        refine L (D_v (R_addN (m := a) (j := d) rfl rfl (by (try simp only [List.length_take, List.length_drop, List.length_append, List.length_cons, List.length_nil, List.length_replicate, List.length_set, Nm.b_len, be2_len]); omega)) ?_)
        refine L (D_v (R_move q6) ?_)
        refine L (D_callS (R_callF Tryz.call114 rfl rfl) (c156 hR ((a + 2 * d) - (a)) (h2) (a) ((a + d)) ((a + 2 * d)) _ (Nat.le_refl _) hG (by omega) (by omega) (by omega) p1 p2) (fun w12_6 p12_6 => ?_))
        obtain ⟨e12_6, h12_6, hG, q12_6⟩ := p12_6
        replace hE := hE.chg e12_6
        replace hB1_0 := hB1_0.chg e12_6 nGB1_0.symm
        refine S_nil ?_
        refine T_tn ?_
        refine wp_seq ?_
        refine W_region ?_
        refine L (D_v (R_move q6) ?_)
        refine L (D_v (R_assign rfl) ?_)
        refine S_nil ?_
        refine T_tn ?_
        refine W_region ?_
        refine L (D_v (R_move q6) ?_)
        refine L (D_v (R_move q4) ?_)
        refine L (D_v (R_mulN (m := 2) (j := d) rfl rfl (by (try simp only [List.length_take, List.length_drop, List.length_append, List.length_cons, List.length_nil, List.length_replicate, List.length_set, Nm.b_len, be2_len]); omega)) ?_)
        refine L (D_v (R_addN (m := (a + 2 * d)) (j := (2 * d)) rfl rfl (by (try simp only [List.length_take, List.length_drop, List.length_append, List.length_cons, List.length_nil, List.length_replicate, List.length_set, Nm.b_len, be2_len]); omega)) ?_)
        refine L (D_v (R_assign rfl) ?_)
        refine S_nil ?_
        refine T_bn ?_
        refine T_tn ?_
        have z2q := q12_6
        refine ⟨_, _, ?_, rfl, _, _, rfl, q1, q2, q4, rfl, ?_, hE, hG, hB1_0, ?_, ?_, ?_, ?_, ?_⟩
        all_goals first | omega | exact Nat.dvd_add hda (Nat.dvd_refl _) | exact hm2.trans (z2q.1.mono (by omega) (by omega)) | exact don_step hdo z2q.1 z2q.2 hda | exact rst_step hrs z2q.1 (by omega) | exact congrArg (fun z : Nat => i64 (z : Int)) (by omega)
      ·
        have l3 : ¬ a + 2 * d ≤ n := by have e := of_decide_eq_false c3; omega
        refine wp_exit ?_
        refine T_te ?_
        refine T_te ?_
        refine T_be ?_
        refine T_tn ?_
        refine wp_seq ?_
        refine wp_seq ?_
        refine W_region ?_
        refine L (D_v (R_move q5) ?_)
        refine L (D_v (R_move q4) ?_)
        refine L (D_v (R_addN (m := a) (j := d) rfl rfl (by (try simp only [List.length_take, List.length_drop, List.length_append, List.length_cons, List.length_nil, List.length_replicate, List.length_set, Nm.b_len, be2_len]); omega)) ?_)
        refine L (D_v (R_assign rfl) ?_)
        refine S_nil ?_
        refine T_tn ?_
        refine wp_seq ?_
        refine W_region ?_
        refine L (D_v (R_move rfl) ?_)
        refine L (D_v (R_move q1) ?_)
        refine L (D_v (R_lssI rfl rfl) ?_)
        refine S_nil ?_
        refine T_tn ?_
        refine W_if rfl (fun c4 => ?_) (fun c4 => ?_)
        ·
          have l4 : a + d < n := by have e := of_decide_eq_true c4; omega
          have p1 : srt lt h2 a (a + d) := srt_to (hrs a (dv_two hda) (Nat.le_refl _)) (by omega)
          have p2 : srt lt h2 (a + d) n := srt_to (hrs (a + d) (dv_add (dv_two hda)) (by omega)) (by omega)
          refine W_region ?_
          refine L (D_v (R_loadA (c := [lf, sf]) Tryz.isAgg117 Tryz.sizeOf117 hB1_0 q2 rfl rfl) ?_)
          refine L (D_v (R_move q5) ?_)
          refine L (D_v (R_move rfl) ?_)
          refine L (D_v (R_move q1) ?_)
          refine L (D_callS (R_callF Tryz.call114 rfl rfl) (c156 hR (n - (a)) (h2) (a) ((a + d)) (n) _ (Nat.le_refl _) hG (by omega) (by omega) (by omega) p1 p2) (fun w14_4 p14_4 => ?_))
          obtain ⟨e14_4, h14_4, hG, q14_4⟩ := p14_4
          replace hE := hE.chg e14_4
          replace hB1_0 := hB1_0.chg e14_4 nGB1_0.symm
          refine S_nil ?_
          refine T_tn ?_
          refine W_region ?_
          refine L (D_v (R_move q4) ?_)
          refine L (D_v (R_mulN (m := d) (j := 2) rfl rfl (by (try simp only [List.length_take, List.length_drop, List.length_append, List.length_cons, List.length_nil, List.length_replicate, List.length_set, Nm.b_len, be2_len]); omega)) ?_)
          refine L (D_v (R_assign rfl) ?_)
          refine S_nil ?_
          refine T_bn ?_
          refine T_tn ?_
          have z3q := q14_4
          have hmv3 := hm2.trans (z3q.1.mono (Nat.zero_le _) (Nat.le_refl _))
          have hbk3 := bks_end hdo z3q.1 z3q.2 hda han (by omega)
          refine ⟨_, _, ?_, rfl, _, _, rfl, q1, q2, rfl, hE, hG, hB1_0, ?_, ?_, ?_, ?_⟩
          all_goals first | omega | exact hmv3 | (rw [Nat.mul_comm]; exact hbk3)
        ·
          have l4 : ¬ a + d < n := by have e := of_decide_eq_false c4; omega
          have p1 : srt lt h2 a n := srt_to (hrs a (dv_two hda) (Nat.le_refl _)) (by omega)
          have hmv3 := hm2
          have hbk3 := bks_end hdo (Mv.refl _ _ _) p1 hda han (by omega)
          refine wp_skip ?_
          refine T_tn ?_
          refine W_region ?_
          refine L (D_v (R_move q4) ?_)
          refine L (D_v (R_mulN (m := d) (j := 2) rfl rfl (by (try simp only [List.length_take, List.length_drop, List.length_append, List.length_cons, List.length_nil, List.length_replicate, List.length_set, Nm.b_len, be2_len]); omega)) ?_)
          refine L (D_v (R_assign rfl) ?_)
          refine S_nil ?_
          refine T_bn ?_
          refine T_tn ?_
          refine ⟨_, _, ?_, rfl, _, _, rfl, q1, q2, rfl, hE, hG, hB1_0, ?_, ?_, ?_, ?_⟩
          all_goals first | omega | exact hmv3 | (rw [Nat.mul_comm]; exact hbk3)
    ·
      have l2 : ¬ d < n := by have e := of_decide_eq_false c2; omega
      refine wp_exit ?_
      refine T_te ?_
      refine T_te ?_
      refine T_be ?_
      refine ret0n rfl ⟨rfl, hE, ?_⟩
      have hz := hbk 0 (Nat.dvd_zero _)
      rw [Nat.min_eq_right (by omega)] at hz
      exact ⟨_, hG, hmv, hz⟩
end Go.Proofs.YteeopgpgbdhmhaaGreat
namespace Go.Proofs.YteeopgpgbdhmhaaGreat
open Go.RowKit Go.Lib
set_option linter.unusedVariables false
set_option linter.unusedSimpArgs false
def isSw (v sf : Value) : Prop := ∀ w, (Extern.ReflectliteSwapper.swapper "internal/reflectlite" (Extern.ReflectliteValue.valueError "Swapper") #[.iface 23 v]).run Tryz.prog w = .ok sf w
theorem find154 : Tryz.prog.funcs.findIdx? (·.name == "internal/reflectlite" ++ ".Swapper$" ++ toString 9) = some 112 := by kernel_rfl
theorem find146 : Tryz.prog.funcs.findIdx? (·.name == "internal/reflectlite" ++ ".Swapper$" ++ toString 1) = some 104 := by kernel_rfl
theorem find147 : Tryz.prog.funcs.findIdx? (·.name == "internal/reflectlite" ++ ".Swapper$" ++ toString 2) = some 105 := by kernel_rfl
theorem isSw_many (p : Option Addr) {n : Nat} (c : Nat) (h : 2 ≤ n) : isSw (.slice p n c) (.func (.func 112) #[] #[.slice p n c, typeHandle Tryz.prog 34]) := by
  obtain ⟨ie, hie, h1, h2, h3⟩ := tinfo53
  obtain ⟨i, hi, hd⟩ := tinfo46
  have hk : swapperK n ie 25 = 9 := by
    unfold swapperK
    have e0 : (n == 0) = false := by simp; omega
    have e1 : (n == 1) = false := by simp; omega
    simp [e0, e1, h2, h3]
  intro w
  have := run_swapper_slice (P := Tryz.prog) 23 34 i ie hi hd hie 25 kind53 p n c 112 (by rw [hk]; exact find154) w
  rw [hk] at this
  simpa using this
theorem isSw_zero (p : Option Addr) (c : Nat) : isSw (.slice p 0 c) (.func (.func 104) #[] #[]) := by
  obtain ⟨ie, hie, _⟩ := tinfo53
  obtain ⟨i, hi, hd⟩ := tinfo46
  intro w
  have := run_swapper_slice (P := Tryz.prog) 23 34 i ie hi hd hie 25 kind53 p 0 c 104 find146 w
  simpa [swapperK] using this
theorem isSw_one (p : Option Addr) (c : Nat) : isSw (.slice p 1 c) (.func (.func 105) #[] #[]) := by
  obtain ⟨ie, hie, _⟩ := tinfo53
  obtain ⟨i, hi, hd⟩ := tinfo46
  intro w
  have := run_swapper_slice (P := Tryz.prog) 23 34 i ie hi hd hie 25 kind53 p 1 c 105 find147 w
  simpa [swapperK] using this
theorem ext147 (args : Array Value) (w : World) : (callFunc 105 args).run Tryz.prog w = (((fun | #[.int .i64 0, .int .i64 0] => pure (.tuple #[]) | _ => Extern.ReflectliteSwapper.outOfRange : Array Value → Sem Value) args).run Tryz.prog w).andThen fun v w' => .ok (.value v) w' :=
  run_callFunc_extern Tryz.func105 (by kernel_rfl) (by kernel_rfl) (by kernel_rfl) (e := fun | #[.int .i64 0, .int .i64 0] => pure (.tuple #[]) | _ => Extern.ReflectliteSwapper.outOfRange) (by kernel_rfl) args w
theorem places145 (w : World) : ((#[⟨"Less", 76, 0, false, "", "", 0⟩, ⟨"Swap", 113, 1, false, "", "", 8⟩] : Array Field).mapM fun (f : Field) => Prod.mk f.offset <$> sizeOf f.type).run Tryz.prog w = .ok #[(0, 1), (1, 1)] w := by
  simp [Tryz.sizeOf76, Tryz.sizeOf113, go_sem]
theorem plain_cells {v : Value} (h : plainV v = true) : v.cells = [v].toArray := by cases v <;> simp_all [plainV, Value.cells]
theorem fill145 {a b z0 z1 : Value} (ha : plainV a = true) (hb : plainV b = true) : Instr.fill ((#[(0, 1), (1, 1)] : Array (Nat × Nat))[·]?) #[z0, z1] [(0, a), (1, b)] = some [a, b].toArray := by
  have := fill_step (place := ((#[(0, 1), (1, 1)] : Array (Nat × Nat))[·]?)) (cells := [z0, z1]) (i := 0) (off := 0) (size := 1) (rest := [(1, b)]) rfl (plain_cells ha) rfl (by simp)
  refine this.trans ?_
  have := fill_step (place := ((#[(0, 1), (1, 1)] : Array (Nat × Nat))[·]?)) (cells := [a, z1]) (i := 1) (off := 1) (size := 1) (rest := []) rfl (plain_cells hb) rfl (by simp)
  exact this
section
variable {ops : Array Oper} {Q : Exit → Act → World → Prop} {K : Act → World → Prop} {n : Nat} {f : Nat → Value} {w : World} {d : Option Tmp} {ty : TypeId} {pos : String} {aft : Array Edge}
theorem D_valueOf {xs : Array Operand} {ts : Array TypeId} {p : Option Addr} {m c : Nat} (hv : xs.toList.map (ov n f) = [.iface 23 (.slice p m c)])
    (k : ∀ g w', Ext w w' → w.heap.size ≤ g → Blk w' g [.slice p m c] 23 → K (E n (upo f d (.agg #[typeHandle Tryz.prog 23, .pointer (some ⟨g, 0, none⟩), .int .u64 151]))) w') :
    wpO Tryz.prog ops Q ⟨d, .call ⟨.value (.func 81), xs, ts⟩, ty, pos, aft, none⟩ K (E n f) w := by
  obtain ⟨i, hi, hd⟩ := tinfo46
  exact D_v (R_callX ext124 hv rfl (run_valueOf_slice (P := Tryz.prog) 23 34 i hi hd p m c w)) (k _ _ (Ext.alloc _ _) (Nat.le_refl _) (Blk.new _ _ _))
theorem D_valueLen {xs : Array Operand} {ts : Array TypeId} {p : Option Addr} {m c g : Nat} (hv : xs.toList.map (ov n f) = [.agg #[typeHandle Tryz.prog 23, .pointer (some ⟨g, 0, none⟩), .int .u64 151]]) (hb : Blk w g [.slice p m c] 23)
    (k : K (E n (upo f d (i64 ((m : Nat) : Int)))) w) : wpO Tryz.prog ops Q ⟨d, .call ⟨.value (.func 84), xs, ts⟩, ty, pos, aft, none⟩ K (E n f) w := by
  obtain ⟨i, hi, hd⟩ := tinfo46
  exact D_v (R_callX ext127 hv rfl (run_valueLen_slice (P := Tryz.prog) 23 34 i hi hd (by kernel_rfl) ⟨g, 0, none⟩ p m c w ((hb.cell 0).trans rfl))) k
end
end Go.Proofs.YteeopgpgbdhmhaaGreat
namespace Go.Proofs.YteeopgpgbdhmhaaGreat
open Go.RowKit
set_option linter.unusedVariables false
set_option linter.unusedSimpArgs false
attribute [local irreducible] wpList wpO H wpQuiet wpStill Code.wp Exit.then Exit.inBlock bodyPost Code.rounds Calls valid sameKey conflict lessV hless num between
set_option maxRecDepth 4000 in
set_option maxHeartbeats 1000000 in
theorem c101  (w : World) : Calls Tryz.prog 66 [i64 2].toArray w (Ret w (i64 370)) := by
  refine enter Tryz.func66 Tryz.ntmps66 rfl rfl ?_
  have hE := Ext.refl w
  refine wp_seq ?_
  refine W_region ?_
  refine L (D_v (R_assign rfl) ?_)
  refine S_nil ?_
  refine T_tn ?_
  refine wp_seq ?_
  refine W_region ?_
  refine L (D_v (R_assign rfl) ?_)
  refine S_nil ?_
  refine T_tn ?_
  refine wp_seq ?_
  refine wp_seq ?_
  refine W_region ?_
  refine L (D_v (R_move rfl) ?_)
  refine S_nil ?_
  refine T_tn ?_
  refine wp_block ?_
  refine wp_seq ?_
  refine wp_block ?_
  refine wp_seq ?_
  refine wp_block ?_
  refine wp_seq ?_
  refine wp_seq ?_
  refine wp_seq ?_
  refine W_region ?_
  refine L (D_v (R_cast (v' := .bool true) (R_eqlI rfl rfl) rfl) ?_)
  refine L (D_v (R_assign rfl) ?_)
  refine S_nil ?_
  refine T_tn ?_
  refine W_ift rfl ?_
  refine wp_exit ?_
  refine T_te ?_
  refine T_te ?_
  refine T_be ?_
  refine T_tn ?_
  refine W_region ?_
  refine L (D_v (R_move rfl) ?_)
  refine L (D_v (R_cast (v' := .int .i64 (184)) (R_addI rfl rfl) rfl) ?_)
  refine L (D_v (R_assign rfl) ?_)
  refine S_nil ?_
  refine T_bn ?_
  refine T_tn ?_
  refine wp_seq ?_
  refine W_region ?_
  refine L (D_v (R_move rfl) ?_)
  refine L (D_v (R_cast (v' := .int .i64 (370)) (R_addI rfl rfl) rfl) ?_)
  refine L (D_v (R_assign rfl) ?_)
  refine S_nil ?_
  refine T_tn ?_
  refine wp_exit ?_
  refine T_be ?_
  refine T_tn ?_
  refine wp_seq ?_
  refine W_region ?_
  refine L (D_v (R_move rfl) ?_)
  refine L (D_v (R_assign rfl) ?_)
  refine S_nil ?_
  refine T_tn ?_
  refine wp_ret ?_
  refine ret1 (v := .int _ _) rfl rfl ⟨?_, hE⟩
  rfl
end Go.Proofs.YteeopgpgbdhmhaaGreat
namespace Go.Proofs.YteeopgpgbdhmhaaGreat
open Go.RowKit
set_option linter.unusedVariables false
set_option linter.unusedSimpArgs false
attribute [local irreducible] wpList wpO H wpQuiet wpStill Code.wp Exit.then Exit.inBlock bodyPost Code.rounds Calls valid sameKey conflict lessV hless num between
set_option maxRecDepth 4000 in
set_option maxHeartbeats 1000000 in
theorem c160 (n : Nm) (w : World) : Calls Tryz.prog 134 [n.v].toArray w (Ret w (hashB (17 :: n.b)).v) := by
  refine enter Tryz.func134 Tryz.ntmps134 rfl rfl ?_
  have hE := Ext.refl w
  refine wp_seq ?_
  refine W_region ?_
  refine L (D_box (c := (n).l) (rfl) (fun aB1 w1 e1 gB1 hB1 => ?_))
  have lB1 := Nat.le_trans hE.size gB1
  replace hE := hE.trans e1
  refine L (D_alloc (c := (Nm.zero).l) Tryz.zeroValue29 rfl (fun aB2 w2 e2 gB2 hB2 => ?_))
  have lB2 := Nat.le_trans hE.size gB2
  have nB1B2 := hB1.ne gB2
  replace hE := hE.trans e2
  replace hB1 := hB1.ext e2
  refine S_nil ?_
  refine T_tn ?_
  refine wp_seq ?_
  refine W_region ?_
  refine L (D_v (R_sliceArr (len := 7) Tryz.underlying29 Tryz.sizeOf5 rfl) ?_)
  refine L (D_call (R_callF Tryz.call70 rfl rfl) (c37 17 (.slice (some ⟨aB1, 0, none⟩) 8 8) ((n).b) _ (hB1.bs 0 (n).b rfl rfl rfl) (by (try simp only [List.length_take, List.length_drop, List.length_append, List.length_cons, List.length_nil, Nm.b_len, be2_len]); omega)) (fun w3 e3 => ?_))
  replace hE := hE.trans e3
  replace hB1 := hB1.ext e3
  replace hB2 := hB2.ext e3
  refine L (D_storeA Tryz.sizeOf29 hB2 rfl rfl rfl rfl rfl (l' := ((hashB (17 :: (n).b))).l) rfl (fun w4 k4 hB2 => ?_))
  replace hE := hE.kp k4 lB2
  replace hB1 := hB1.kp k4 nB1B2
  refine S_nil ?_
  refine T_tn ?_
  refine wp_ret ?_
  refine retc (c := ((hashB (17 :: (n).b))).l) rfl rfl Tryz.isAgg29 Tryz.sizeOf29 hB2 rfl rfl ⟨?_, hE⟩
  rfl
set_option maxRecDepth 4000 in
set_option maxHeartbeats 1000000 in
theorem c98_2  (w : World) : Calls Tryz.prog 67 [i64 2].toArray w (Ret w (i64 1024)) := by
  refine enter Tryz.func67 Tryz.ntmps67 rfl rfl ?_
  have hE := Ext.refl w
  refine wp_seq ?_
  refine W_region ?_
  refine L (D_v (R_assign rfl) ?_)
  refine S_nil ?_
  refine T_tn ?_
  refine wp_seq ?_
  refine W_region ?_
  refine L (D_v (R_assign rfl) ?_)
  refine S_nil ?_
  refine T_tn ?_
  refine wp_seq ?_
  refine wp_seq ?_
  refine W_region ?_
  refine L (D_v (R_move rfl) ?_)
  refine S_nil ?_
  refine T_tn ?_
  refine wp_block ?_
  refine wp_seq ?_
  refine wp_block ?_
  refine wp_seq ?_
  refine wp_block ?_
  refine wp_seq ?_
  refine wp_block ?_
  refine wp_seq ?_
  refine wp_seq ?_
  refine wp_seq ?_
  refine W_region ?_
  refine L (D_v (R_cast (v' := .bool true) (R_eqlI rfl rfl) rfl) ?_)
  refine L (D_v (R_assign rfl) ?_)
  refine S_nil ?_
  refine T_tn ?_
  refine W_ift rfl ?_
  refine wp_exit ?_
  refine T_te ?_
  refine T_te ?_
  refine T_be ?_
  refine T_tn ?_
  refine W_region ?_
  refine L (D_v (R_move rfl) ?_)
  refine L (D_v (R_cast (v' := .int .i64 (32)) (R_mulI rfl rfl) rfl) ?_)
  refine L (D_v (R_assign rfl) ?_)
  refine S_nil ?_
  refine T_bn ?_
  refine T_tn ?_
  refine wp_seq ?_
  refine W_region ?_
  refine L (D_v (R_move rfl) ?_)
  refine L (D_v (R_cast (v' := .int .i64 (1024)) (R_mulI rfl rfl) rfl) ?_)
  refine L (D_v (R_assign rfl) ?_)
  refine S_nil ?_
  refine T_tn ?_
  refine wp_exit ?_
  refine T_bx rfl ?_
  refine T_te ?_
  refine T_be ?_
  refine T_tn ?_
  refine wp_seq ?_
  refine W_region ?_
  refine L (D_v (R_move rfl) ?_)
  refine L (D_v (R_assign rfl) ?_)
  refine S_nil ?_
  refine T_tn ?_
  refine wp_ret ?_
  refine ret1 (v := .int _ _) rfl rfl ⟨?_, hE⟩
  rfl
set_option maxRecDepth 4000 in
set_option maxHeartbeats 1000000 in
theorem c173 (t : UInt8) (a b : Nm) (w : World) : Calls Tryz.prog 62 [u8 t, a.v, b.v].toArray w (Ret w (hashB (t :: (a.b ++ b.b))).v) := by
  refine enter Tryz.func62 Tryz.ntmps62 rfl rfl ?_
  have hE := Ext.refl w
  refine wp_seq ?_
  refine W_region ?_
  refine L (D_box (c := (a).l) (rfl) (fun aB1 w1 e1 gB1 hB1 => ?_))
  have lB1 := Nat.le_trans hE.size gB1
  replace hE := hE.trans e1
  refine L (D_box (c := (b).l) (rfl) (fun aB2 w2 e2 gB2 hB2 => ?_))
  have lB2 := Nat.le_trans hE.size gB2
  have nB1B2 := hB1.ne gB2
  replace hE := hE.trans e2
  replace hB1 := hB1.ext e2
  refine L (D_alloc (c := (Nm.zero).l) Tryz.zeroValue29 rfl (fun aB3 w3 e3 gB3 hB3 => ?_))
  have lB3 := Nat.le_trans hE.size gB3
  have nB1B3 := hB1.ne gB3
  have nB2B3 := hB2.ne gB3
  replace hE := hE.trans e3
  replace hB1 := hB1.ext e3
  replace hB2 := hB2.ext e3
  refine S_nil ?_
  refine T_tn ?_
  refine wp_seq ?_
  refine W_held (fun W => Ext w W ∧ Blk W aB1 (a).l 29 ∧ Blk W aB2 (b).l 29 ∧ True) mixed (fun w4 e4 => ?_)
  replace hE := hE.trans e4
  replace hB1 := hB1.ext e4
  replace hB2 := hB2.ext e4
  replace hB3 := hB3.ext e4
  refine H_take (i := 0) rfl (by kernel_rfl) (by kernel_rfl) (by kernel_rfl) rfl (pq_then pq_body) ⟨hE, hB1, hB2, trivial⟩ rfl (fun w hw => R_move rfl) ?_
  refine H_take (i := 2) rfl (by kernel_rfl) (by kernel_rfl) (by kernel_rfl) rfl (pq_then pq_body) ⟨hE, hB1, hB2, trivial⟩ rfl (fun w hw => R_sliceArr (len := 7) Tryz.underlying29 Tryz.sizeOf5 rfl) ?_
  refine H_take (i := 4) rfl (by kernel_rfl) (by kernel_rfl) (by kernel_rfl) rfl (pq_then pq_body) ⟨hE, hB1, hB2, trivial⟩ rfl (fun w hw => R_sliceArr (len := 7) Tryz.underlying29 Tryz.sizeOf5 rfl) ?_
  refine H_op (i := 1) (by kernel_rfl) rfl rfl (D_build0 Tryz.underlying32 Tryz.sizeOf5 (fun v6 w5 o7 e5 => ?_))
  replace o7 := o7.lo hE.size
  replace hE := hE.trans e5
  replace hB1 := hB1.ext e5
  replace hB2 := hB2.ext e5
  replace hB3 := hB3.ext e5
  refine ⟨⟨hE, hB1, hB2, trivial⟩, ?_⟩
  refine H_op (i := 3) (by kernel_rfl) rfl rfl (D_appendB elt5 Tryz.underlying32 rfl rfl o7 (hB1.bs 0 (a).b rfl rfl rfl) (by (try simp only [List.length_take, List.length_drop, List.length_append, List.length_cons, List.length_nil, Nm.b_len, be2_len]); omega) hE.size (fun v9 w6 o10 g8 => ?_))
  replace hE := hE.grown g8 (fun k hk => own_ge o7 hk)
  replace hB1 := hB1.grown g8 (o7.neB hB1 rfl)
  replace hB2 := hB2.grown g8 (o7.neB hB2 rfl)
  replace hB3 := hB3.grown g8 (o7.neB hB3 rfl)
  refine ⟨⟨hE, hB1, hB2, trivial⟩, ?_⟩
  refine H_op (i := 5) (by kernel_rfl) rfl rfl (D_appendB elt5 Tryz.underlying32 rfl rfl o10 (hB2.bs 0 (b).b rfl rfl rfl) (by (try simp only [List.length_take, List.length_drop, List.length_append, List.length_cons, List.length_nil, Nm.b_len, be2_len]); omega) hE.size (fun v12 w7 o13 g11 => ?_))
  replace hE := hE.grown g11 (fun k hk => own_ge o10 hk)
  replace hB1 := hB1.grown g11 (o10.neB hB1 rfl)
  replace hB2 := hB2.grown g11 (o10.neB hB2 rfl)
  replace hB3 := hB3.grown g11 (o10.neB hB3 rfl)
  refine ⟨⟨hE, hB1, hB2, trivial⟩, ?_⟩
  refine H_op (i := 6) (by kernel_rfl) rfl rfl (D_call (R_callF Tryz.call60 rfl rfl) (c88 t v12 ((([] ++ (a).b) ++ (b).b)) _ o13.bs (by (try simp only [List.length_take, List.length_drop, List.length_append, List.length_cons, List.length_nil, Nm.b_len, be2_len]); omega)) (fun w8 e14 => ?_))
  replace hE := hE.trans e14
  replace hB1 := hB1.ext e14
  replace hB2 := hB2.ext e14
  replace hB3 := hB3.ext e14
  replace o13 := o13.ext e14
  refine ⟨⟨hE, hB1, hB2, trivial⟩, ?_⟩
  have xo13 := o13.neB hB3 rfl
  refine H_op (i := 7) (by kernel_rfl) rfl rfl (D_storeA Tryz.sizeOf29 hB3 rfl rfl rfl rfl rfl (l' := ((hashB (t :: (([] ++ (a).b) ++ (b).b)))).l) rfl (fun w9 k15 hB3 => ?_))
  replace hE := hE.kp k15 lB3
  replace hB1 := hB1.kp k15 nB1B3
  replace hB2 := hB2.kp k15 nB2B3
  replace o13 := o13.kp k15 xo13
  refine ⟨⟨hE, hB1, hB2, trivial⟩, ?_⟩
  refine H_done (by kernel_rfl) ?_
  refine T_tn ?_
  refine wp_ret ?_
  refine retc (c := ((hashB (t :: (([] ++ (a).b) ++ (b).b)))).l) rfl rfl Tryz.isAgg29 Tryz.sizeOf29 hB3 rfl rfl ⟨?_, hE⟩
  rfl
end Go.Proofs.YteeopgpgbdhmhaaGreat
namespace Go.Proofs.YteeopgpgbdhmhaaGreat
open Go.RowKit
set_option linter.unusedVariables false
set_option linter.unusedSimpArgs false
attribute [local irreducible] wpList wpO H wpQuiet wpStill Code.wp Exit.then Exit.inBlock bodyPost Code.rounds Calls valid sameKey conflict lessV hless num between
set_option maxRecDepth 4000 in
set_option maxHeartbeats 1000000 in
theorem c161 (n : Nat) (w : World) (hn : 1 ≤ n) (hb : n ≤ 1000000) : Calls Tryz.prog 133 [i64 ((n : Nat) : Int)].toArray w (Ret w (i64 ((split n : Nat) : Int))) := by
  refine enter Tryz.func133 Tryz.ntmps133 rfl rfl ?_
  have hE := Ext.refl w
  refine wp_seq ?_
  refine W_region ?_
  refine L (D_v (R_assign rfl) ?_)
  refine S_nil ?_
  refine T_tn ?_
  refine wp_seq ?_
  refine W_region ?_
  refine L (D_v (R_assign rfl) ?_)
  refine S_nil ?_
  refine T_tn ?_
  refine wp_seq ?_
  refine wp_block ?_
  refine W_loop (fun mz g W => ∃ (k : Nat) (f : Nat), mz = n - k ∧ g 0 = i64 ((n : Nat) : Int) ∧ g 3 = i64 ((k : Nat) : Int) ∧ Ext w W ∧ 1 ≤ k ∧ k ≤ n ∧ spl n f k = split n ∧ n - k ≤ f) ⟨1, n, rfl, rfl, rfl, hE, (Nat.le_refl _), hn, rfl, (Nat.sub_le _ _)⟩ ?_
  rintro mz f3 w3l ⟨k, f, hm, q0, q3, hE, hk, hkn, hs, hf⟩
  refine wp_seq ?_
  refine wp_seq ?_
  refine W_region ?_
  refine L (D_v (R_move q3) ?_)
  refine L (D_v (R_move q0) ?_)
  refine L (D_v (R_move q3) ?_)
  refine L (D_v (R_subN (m := n) (j := k) rfl rfl (by (try simp only [List.length_take, List.length_drop, List.length_append, List.length_cons, List.length_nil, List.length_replicate, List.length_set, Nm.b_len, be2_len]); omega) (by (try simp only [List.length_take, List.length_drop, List.length_append, List.length_cons, List.length_nil, List.length_replicate, List.length_set, Nm.b_len, be2_len]); omega)) ?_)
  refine L (D_v (R_lssI rfl rfl) ?_)
  refine S_nil ?_
  refine T_tn ?_
  refine W_if rfl (fun c1 => ?_) (fun c1 => ?_)
  ·
    have lk : k < n - k := by simp at c1; omega
    obtain ⟨f, rfl⟩ : ∃ f2, f = f2 + 1 := ⟨f - 1, by omega⟩
    rw [spl_step lk] at hs
    refine wp_skip ?_
    refine T_tn ?_
    refine wp_block ?_
    refine W_region ?_
    refine L (D_v (R_move q3) ?_)
    refine L (D_v (R_mulN (m := k) (j := 2) rfl rfl (by (try simp only [List.length_take, List.length_drop, List.length_append, List.length_cons, List.length_nil, List.length_replicate, List.length_set, Nm.b_len, be2_len]); omega)) ?_)
    refine L (D_v (R_assign rfl) ?_)
    refine S_nil ?_
    refine T_bn ?_
    refine T_tn ?_
    refine ⟨_, _, ?_, rfl, _, f, rfl, q0, rfl, hE, ?_, ?_, ?_, ?_⟩
    all_goals first | omega | exact hs | (rw [Nat.mul_comm]; exact hs)
  ·
    have lk : ¬ k < n - k := by simp at c1; omega
    rw [spl_end lk] at hs
    refine wp_exit ?_
    refine T_te ?_
    refine T_te ?_
    refine T_be ?_
    refine T_tn ?_
    refine wp_seq ?_
    refine W_region ?_
    refine L (D_v (R_move q3) ?_)
    refine L (D_v (R_assign rfl) ?_)
    refine S_nil ?_
    refine T_tn ?_
    refine wp_ret ?_
    refine ret1 (v := .int _ _) rfl rfl ⟨?_, hE⟩
    rw [hs]; rfl
set_option maxRecDepth 4000 in
set_option maxHeartbeats 1000000 in
theorem c141 (n : Nat) (w : World) (hn : 1 ≤ n) (hb : n ≤ 1000000) : Calls Tryz.prog 61 [i64 ((n : Nat) : Int)].toArray w (Ret w (i64 ((split n : Nat) : Int))) := by
  refine enter Tryz.func61 Tryz.ntmps61 rfl rfl ?_
  have hE := Ext.refl w
  refine wp_seq ?_
  refine W_region ?_
  refine L (D_v (R_assign rfl) ?_)
  refine S_nil ?_
  refine T_tn ?_
  refine wp_seq ?_
  refine W_region ?_
  refine L (D_v (R_assign rfl) ?_)
  refine S_nil ?_
  refine T_tn ?_
  refine wp_seq ?_
  refine wp_block ?_
  refine W_loop (fun mz g W => ∃ (k : Nat) (f : Nat), mz = n - k ∧ g 0 = i64 ((n : Nat) : Int) ∧ g 3 = i64 ((k : Nat) : Int) ∧ Ext w W ∧ 1 ≤ k ∧ k ≤ n ∧ spl n f k = split n ∧ n - k ≤ f) ⟨1, n, rfl, rfl, rfl, hE, (Nat.le_refl _), hn, rfl, (Nat.sub_le _ _)⟩ ?_
  rintro mz f3 w3l ⟨k, f, hm, q0, q3, hE, hk, hkn, hs, hf⟩
  refine wp_seq ?_
  refine wp_seq ?_
  refine W_region ?_
  refine L (D_v (R_move q3) ?_)
  refine L (D_v (R_move q0) ?_)
  refine L (D_v (R_move q3) ?_)
  refine L (D_v (R_subN (m := n) (j := k) rfl rfl (by (try simp only [List.length_take, List.length_drop, List.length_append, List.length_cons, List.length_nil, List.length_replicate, List.length_set, Nm.b_len, be2_len]); omega) (by (try simp only [List.length_take, List.length_drop, List.length_append, List.length_cons, List.length_nil, List.length_replicate, List.length_set, Nm.b_len, be2_len]); omega)) ?_)
  refine L (D_v (R_lssI rfl rfl) ?_)
  refine S_nil ?_
  refine T_tn ?_
  refine W_if rfl (fun c1 => ?_) (fun c1 => ?_)
  ·
    have lk : k < n - k := by simp at c1; omega
    obtain ⟨f, rfl⟩ : ∃ f2, f = f2 + 1 := ⟨f - 1, by omega⟩
    rw [spl_step lk] at hs
    refine wp_skip ?_
    refine T_tn ?_
    refine wp_block ?_
    refine W_region ?_
    refine L (D_v (R_move q3) ?_)
    refine L (D_v (R_mulN (m := 2) (j := k) rfl rfl (by (try simp only [List.length_take, List.length_drop, List.length_append, List.length_cons, List.length_nil, List.length_replicate, List.length_set, Nm.b_len, be2_len]); omega)) ?_)
    refine L (D_v (R_assign rfl) ?_)
    refine S_nil ?_
    refine T_bn ?_
    refine T_tn ?_
    refine ⟨_, _, ?_, rfl, _, f, rfl, q0, rfl, hE, ?_, ?_, ?_, ?_⟩
    all_goals first | omega | exact hs | (rw [Nat.mul_comm]; exact hs)
  ·
    have lk : ¬ k < n - k := by simp at c1; omega
    rw [spl_end lk] at hs
    refine wp_exit ?_
    refine T_te ?_
    refine T_te ?_
    refine T_be ?_
    refine T_tn ?_
    refine wp_seq ?_
    refine W_region ?_
    refine L (D_v (R_move q3) ?_)
    refine L (D_v (R_assign rfl) ?_)
    refine S_nil ?_
    refine T_tn ?_
    refine wp_ret ?_
    refine ret1 (v := .int _ _) rfl rfl ⟨?_, hE⟩
    rw [hs]; rfl
set_option maxRecDepth 4000 in
set_option maxHeartbeats 1000000 in
theorem c176 (i0 n0 : Nat) (I : Int) (w : World) (hI : I = ((i0 : Nat) : Int)) (hi : i0 < n0) (hb : n0 ≤ 1000000) : Calls Tryz.prog 122 [i64 I, i64 ((n0 : Nat) : Int)].toArray w (Ret w (i64 ((dep n0 i0 n0 : Nat) : Int))) := by
  refine enter Tryz.func122 Tryz.ntmps122 rfl rfl ?_
  have hE := Ext.refl w
  refine wp_seq ?_
  refine W_region ?_
  refine L (D_v (R_assign rfl) ?_)
  refine S_nil ?_
  refine T_tn ?_
  refine wp_seq ?_
  refine wp_seq ?_
  refine W_region ?_
  refine L (D_v (R_move rfl) ?_)
  refine L (D_v (R_lssI rfl rfl) ?_)
  refine L (D_v (R_move rfl) ?_)
  refine L (D_g1 rfl rfl (fun hb => R_move rfl) ?_)
  refine L (D_g1 rfl rfl (fun hb => R_move rfl) ?_)
  refine L (D_g1 rfl rfl (fun hb => R_geqI (cgE hb) (cgE hb)) ?_)
  refine L (D_v (R_pickO rfl rfl rfl) ?_)
  refine S_nil ?_
  refine T_tn ?_
  refine W_if rfl (fun c1 => ?_) (fun c1 => ?_)
  ·
    subst hI
    exfalso; revert c1; simp; omega
  ·
    subst hI
    refine wp_skip ?_
    refine T_tn ?_
    refine wp_seq ?_
    refine W_region ?_
    refine L (D_v (R_assign rfl) ?_)
    refine S_nil ?_
    refine T_tn ?_
    refine wp_seq ?_
    refine wp_block ?_
    refine W_loop (fun mz g W => ∃ (i : Nat) (n : Nat) (d : Nat) (f : Nat), mz = n + 0 ∧ g 0 = i64 ((i : Nat) : Int) ∧ g 1 = i64 ((n : Nat) : Int) ∧ g 5 = i64 ((d : Nat) : Int) ∧ Ext w W ∧ i < n ∧ n ≤ 1000000 ∧ n ≤ f ∧ d + dep f i n = dep n0 i0 n0 ∧ d + n ≤ 1000000) ⟨i0, n0, 0, n0, rfl, rfl, rfl, rfl, hE, hi, hb, (Nat.le_refl _), (by simp), (by simpa using hb)⟩ ?_
    rintro mz f4 w4l ⟨i, n, d, f, hm, q0, q1, q5, hE, hi, hb, hf, hd, hdb⟩
    refine wp_seq ?_
    refine wp_seq ?_
    refine W_region ?_
    refine L (D_v (R_move q1) ?_)
    refine L (D_v (R_gtrI rfl rfl) ?_)
    refine S_nil ?_
    refine T_tn ?_
    refine W_if rfl (fun c2 => ?_) (fun c2 => ?_)
    ·
      have lk : 1 < n := by simp at c2; omega
      obtain ⟨f, rfl⟩ : ∃ f2, f = f2 + 1 := ⟨f - 1, by omega⟩
      have hsb := split_bound (n := n) (by omega)
      refine wp_skip ?_
      refine T_tn ?_
      refine wp_block ?_
      refine wp_seq ?_
      refine W_region ?_
      refine L (D_v (R_move q1) ?_)
      refine L (D_call (R_callF Tryz.call133 rfl rfl) (c161 (n) _ (by omega) (by omega)) (fun w6_1 e6_1 => ?_))
      replace hE := hE.trans e6_1
      refine L (D_v (R_assign rfl) ?_)
      refine S_nil ?_
      refine T_tn ?_
      refine wp_seq ?_
      refine wp_seq ?_
      refine W_region ?_
      refine L (D_v (R_move q0) ?_)
      refine L (D_v (R_move rfl) ?_)
      refine L (D_v (R_lssI rfl rfl) ?_)
      refine S_nil ?_
      refine T_tn ?_
      refine W_if rfl (fun c3 => ?_) (fun c3 => ?_)
      ·
        have lj : i < split n := by simp at c3; omega
        rw [dep_lo lk lj] at hd
        refine W_region ?_
        refine L (D_v (R_move rfl) ?_)
        refine L (D_v (R_assign rfl) ?_)
        refine S_nil ?_
        refine T_tn ?_
        refine W_region ?_
        refine L (D_v (R_move q5) ?_)
        refine L (D_v (R_addN (m := d) (j := 1) rfl rfl (by (try simp only [List.length_take, List.length_drop, List.length_append, List.length_cons, List.length_nil, List.length_replicate, List.length_set, Nm.b_len, be2_len]); omega)) ?_)
        refine L (D_v (R_assign rfl) ?_)
        refine S_nil ?_
        refine T_bn ?_
        refine T_tn ?_
        refine ⟨_, _, ?_, rfl, _, _, _, f, rfl, q0, rfl, rfl, hE, ?_, ?_, ?_, ?_, ?_⟩
        all_goals first | omega
      ·
        have lj : ¬ i < split n := by simp at c3; omega
        rw [dep_hi lk lj] at hd
        refine W_region ?_
        refine L (D_v (R_move q0) ?_)
        refine L (D_v (R_move rfl) ?_)
        refine L (D_v (R_subN (m := i) (j := (split (n))) rfl rfl (by (try simp only [List.length_take, List.length_drop, List.length_append, List.length_cons, List.length_nil, List.length_replicate, List.length_set, Nm.b_len, be2_len]); omega) (by (try simp only [List.length_take, List.length_drop, List.length_append, List.length_cons, List.length_nil, List.length_replicate, List.length_set, Nm.b_len, be2_len]); omega)) ?_)
        refine L (D_v (R_move q1) ?_)
        refine L (D_v (R_move rfl) ?_)
        refine L (D_v (R_subN (m := n) (j := (split (n))) rfl rfl (by (try simp only [List.length_take, List.length_drop, List.length_append, List.length_cons, List.length_nil, List.length_replicate, List.length_set, Nm.b_len, be2_len]); omega) (by (try simp only [List.length_take, List.length_drop, List.length_append, List.length_cons, List.length_nil, List.length_replicate, List.length_set, Nm.b_len, be2_len]); omega)) ?_)
        refine L (D_v (R_assign rfl) ?_)
        refine L (D_v (R_assign rfl) ?_)
        refine S_nil ?_
        refine T_tn ?_
        refine W_region ?_
        refine L (D_v (R_move q5) ?_)
        refine L (D_v (R_addN (m := d) (j := 1) rfl rfl (by (try simp only [List.length_take, List.length_drop, List.length_append, List.length_cons, List.length_nil, List.length_replicate, List.length_set, Nm.b_len, be2_len]); omega)) ?_)
        refine L (D_v (R_assign rfl) ?_)
        refine S_nil ?_
        refine T_bn ?_
        refine T_tn ?_
        refine ⟨_, _, ?_, rfl, _, _, _, f, rfl, rfl, rfl, rfl, hE, ?_, ?_, ?_, ?_, ?_⟩
        all_goals first | omega
    ·
      have lk : ¬ 1 < n := by simp at c2; omega
      rw [dep_end lk] at hd
      refine wp_exit ?_
      refine T_te ?_
      refine T_te ?_
      refine T_be ?_
      refine T_tn ?_
      refine wp_seq ?_
      refine W_region ?_
      refine L (D_v (R_move q5) ?_)
      refine L (D_v (R_assign rfl) ?_)
      refine S_nil ?_
      refine T_tn ?_
      refine wp_ret ?_
      refine ret1 (v := .int _ _) rfl rfl ⟨?_, hE⟩
      rw [← hd]; rfl
set_option maxRecDepth 4000 in
set_option maxHeartbeats 1000000 in
theorem c184 (i0 n0 : Nat) (I : Int) (w : World) (hI : I = ((i0 : Nat) : Int)) (hi : i0 < n0) (hb : n0 ≤ 1000000) : Calls Tryz.prog 100 [i64 I, i64 ((n0 : Nat) : Int)].toArray w (Ret w (i64 ((dep n0 i0 n0 : Nat) : Int))) := by
  refine enter Tryz.func100 Tryz.ntmps100 rfl rfl ?_
  have hE := Ext.refl w
  refine wp_seq ?_
  refine W_region ?_
  refine L (D_v (R_assign rfl) ?_)
  refine S_nil ?_
  refine T_tn ?_
  refine wp_seq ?_
  refine wp_seq ?_
  refine W_region ?_
  refine L (D_v (R_move rfl) ?_)
  refine L (D_v (R_lssI rfl rfl) ?_)
  refine L (D_v (R_move rfl) ?_)
  refine L (D_g1 rfl rfl (fun hb => R_move rfl) ?_)
  refine L (D_g1 rfl rfl (fun hb => R_move rfl) ?_)
  refine L (D_g1 rfl rfl (fun hb => R_geqI (cgE hb) (cgE hb)) ?_)
  refine L (D_v (R_pickO rfl rfl rfl) ?_)
  refine S_nil ?_
  refine T_tn ?_
  refine W_if rfl (fun c1 => ?_) (fun c1 => ?_)
  ·
    subst hI
    exfalso; revert c1; simp; omega
  ·
    subst hI
    refine wp_skip ?_
    refine T_tn ?_
    refine wp_seq ?_
    refine W_region ?_
    refine L (D_v (R_assign rfl) ?_)
    refine S_nil ?_
    refine T_tn ?_
    refine wp_seq ?_
    refine wp_block ?_
    refine W_loop (fun mz g W => ∃ (i : Nat) (n : Nat) (d : Nat) (f : Nat), mz = n + 0 ∧ g 0 = i64 ((i : Nat) : Int) ∧ g 1 = i64 ((n : Nat) : Int) ∧ g 5 = i64 ((d : Nat) : Int) ∧ Ext w W ∧ i < n ∧ n ≤ 1000000 ∧ n ≤ f ∧ d + dep f i n = dep n0 i0 n0 ∧ d + n ≤ 1000000) ⟨i0, n0, 0, n0, rfl, rfl, rfl, rfl, hE, hi, hb, (Nat.le_refl _), (by simp), (by simpa using hb)⟩ ?_
    rintro mz f4 w4l ⟨i, n, d, f, hm, q0, q1, q5, hE, hi, hb, hf, hd, hdb⟩
    refine wp_seq ?_
    refine wp_seq ?_
    refine W_region ?_
    refine L (D_v (R_move q1) ?_)
    refine L (D_v (R_gtrI rfl rfl) ?_)
    refine S_nil ?_
    refine T_tn ?_
    refine W_if rfl (fun c2 => ?_) (fun c2 => ?_)
    ·
      have lk : 1 < n := by simp at c2; omega
      obtain ⟨f, rfl⟩ : ∃ f2, f = f2 + 1 := ⟨f - 1, by omega⟩
      have hsb := split_bound (n := n) (by omega)
      refine wp_skip ?_
      refine T_tn ?_
      refine wp_block ?_
      refine wp_seq ?_
      refine W_region ?_
      refine L (D_v (R_move q1) ?_)
      refine L (D_call (R_callF Tryz.call61 rfl rfl) (c141 (n) _ (by omega) (by omega)) (fun w6_1 e6_1 => ?_))
      replace hE := hE.trans e6_1
      refine L (D_v (R_assign rfl) ?_)
      refine S_nil ?_
      refine T_tn ?_
      refine wp_seq ?_
      refine wp_seq ?_
      refine W_region ?_
      refine L (D_v (R_move q0) ?_)
      refine L (D_v (R_move rfl) ?_)
      refine L (D_v (R_lssI rfl rfl) ?_)
      refine S_nil ?_
      refine T_tn ?_
      refine W_if rfl (fun c3 => ?_) (fun c3 => ?_)
      ·
        have lj : i < split n := by simp at c3; omega
        rw [dep_lo lk lj] at hd
        refine W_region ?_
        refine L (D_v (R_move rfl) ?_)
        refine L (D_v (R_assign rfl) ?_)
        refine S_nil ?_
        refine T_tn ?_
        refine W_region ?_
        refine L (D_v (R_move q5) ?_)
        refine L (D_v (R_addN (m := d) (j := 1) rfl rfl (by (try simp only [List.length_take, List.length_drop, List.length_append, List.length_cons, List.length_nil, List.length_replicate, List.length_set, Nm.b_len, be2_len]); omega)) ?_)
        refine L (D_v (R_assign rfl) ?_)
        refine S_nil ?_
        refine T_bn ?_
        refine T_tn ?_
        refine ⟨_, _, ?_, rfl, _, _, _, f, rfl, q0, rfl, rfl, hE, ?_, ?_, ?_, ?_, ?_⟩
        all_goals first | omega
      ·
        have lj : ¬ i < split n := by simp at c3; omega
        rw [dep_hi lk lj] at hd
        refine W_region ?_
        refine L (D_v (R_move q0) ?_)
        refine L (D_v (R_move rfl) ?_)
        refine L (D_v (R_subN (m := i) (j := (split (n))) rfl rfl (by (try simp only [List.length_take, List.length_drop, List.length_append, List.length_cons, List.length_nil, List.length_replicate, List.length_set, Nm.b_len, be2_len]); omega) (by (try simp only [List.length_take, List.length_drop, List.length_append, List.length_cons, List.length_nil, List.length_replicate, List.length_set, Nm.b_len, be2_len]); omega)) ?_)
        refine L (D_v (R_move q1) ?_)
        refine L (D_v (R_move rfl) ?_)
        refine L (D_v (R_subN (m := n) (j := (split (n))) rfl rfl (by (try simp only [List.length_take, List.length_drop, List.length_append, List.length_cons, List.length_nil, List.length_replicate, List.length_set, Nm.b_len, be2_len]); omega) (by (try simp only [List.length_take, List.length_drop, List.length_append, List.length_cons, List.length_nil, List.length_replicate, List.length_set, Nm.b_len, be2_len]); omega)) ?_)
        refine L (D_v (R_assign rfl) ?_)
        refine L (D_v (R_assign rfl) ?_)
        refine S_nil ?_
        refine T_tn ?_
        refine W_region ?_
        refine L (D_v (R_move q5) ?_)
        refine L (D_v (R_addN (m := d) (j := 1) rfl rfl (by (try simp only [List.length_take, List.length_drop, List.length_append, List.length_cons, List.length_nil, List.length_replicate, List.length_set, Nm.b_len, be2_len]); omega)) ?_)
        refine L (D_v (R_assign rfl) ?_)
        refine S_nil ?_
        refine T_bn ?_
        refine T_tn ?_
        refine ⟨_, _, ?_, rfl, _, _, _, f, rfl, rfl, rfl, rfl, hE, ?_, ?_, ?_, ?_, ?_⟩
        all_goals first | omega
    ·
      have lk : ¬ 1 < n := by simp at c2; omega
      rw [dep_end lk] at hd
      refine wp_exit ?_
      refine T_te ?_
      refine T_te ?_
      refine T_be ?_
      refine T_tn ?_
      refine wp_seq ?_
      refine W_region ?_
      refine L (D_v (R_move q5) ?_)
      refine L (D_v (R_assign rfl) ?_)
      refine S_nil ?_
      refine T_tn ?_
      refine wp_ret ?_
      refine ret1 (v := .int _ _) rfl rfl ⟨?_, hE⟩
      rw [← hd]; rfl
set_option maxRecDepth 4000 in
set_option maxHeartbeats 1000000 in
theorem c162 (t : UInt8) (a b : Nm) (w : World) : Calls Tryz.prog 135 [u8 t, a.v, b.v].toArray w (Ret w (pairH t a b).v) := by
  refine enter Tryz.func135 Tryz.ntmps135 rfl rfl ?_
  have hE := Ext.refl w
  refine wp_seq ?_
  refine W_region ?_
  refine L (D_box (c := (a).l) (rfl) (fun aB1_0 w1_0 e1_0 gB1_0 hB1_0 => ?_))
  have lB1_0 := Nat.le_trans hE.size gB1_0
  replace hE := hE.trans e1_0
  refine L (D_box (c := (b).l) (rfl) (fun aB1_1 w1_1 e1_1 gB1_1 hB1_1 => ?_))
  have lB1_1 := Nat.le_trans hE.size gB1_1
  have nB1_0B1_1 := hB1_0.ne gB1_1
  replace hE := hE.trans e1_1
  replace hB1_0 := hB1_0.ext e1_1
  refine L (D_alloc (c := (Nm.zero).l) Tryz.zeroValue29 rfl (fun aB1_2 w1_2 e1_2 gB1_2 hB1_2 => ?_))
  have lB1_2 := Nat.le_trans hE.size gB1_2
  have nB1_0B1_2 := hB1_0.ne gB1_2
  have nB1_1B1_2 := hB1_1.ne gB1_2
  replace hE := hE.trans e1_2
  replace hB1_0 := hB1_0.ext e1_2
  replace hB1_1 := hB1_1.ext e1_2
  refine S_nil ?_
  refine T_tn ?_
  refine wp_seq ?_
  refine W_region ?_
  refine L (D_alloc (c := (List.replicate 16 (u8 0))) Tryz.zeroValue156 rfl (fun aB2_0 w2_0 e2_0 gB2_0 hB2_0 => ?_))
  have lB2_0 := Nat.le_trans hE.size gB2_0
  have nB1_0B2_0 := hB1_0.ne gB2_0
  have nB1_1B2_0 := hB1_1.ne gB2_0
  have nB1_2B2_0 := hB1_2.ne gB2_0
  replace hE := hE.trans e2_0
  replace hB1_0 := hB1_0.ext e2_0
  replace hB1_1 := hB1_1.ext e2_0
  replace hB1_2 := hB1_2.ext e2_0
  refine S_nil ?_
  refine T_tn ?_
  refine wp_seq ?_
  refine W_tail 2 mixed (by kernel_rfl) (fun w3_99 e3_99 => ?_)
  replace hE := hE.trans e3_99
  replace hB1_0 := hB1_0.ext e3_99
  replace hB1_1 := hB1_1.ext e3_99
  replace hB1_2 := hB1_2.ext e3_99
  replace hB2_0 := hB2_0.ext e3_99
  refine T_v (R_sliceArr (len := 15) Tryz.underlying156 Tryz.sizeOf5 rfl) ?_
  refine T_v (R_sliceArr (len := 7) Tryz.underlying29 Tryz.sizeOf5 rfl) ?_
  refine T_nil ?_
  have h0 := hB2_0
  refine L (D_copyBlk (l' := ((a).l ++ List.replicate 8 (u8 0))) Tryz.underlying32 Tryz.sizeOf5 rfl rfl hB2_0 rfl (hB1_0.bs 0 (a).b rfl rfl rfl) (bl_plain _) rfl (fun w3_2 k3_2 hB2_0 => ?_))
  replace hE := hE.kp k3_2 lB2_0
  replace hB1_0 := hB1_0.kp k3_2 nB1_0B2_0
  replace hB1_1 := hB1_1.kp k3_2 nB1_1B2_0
  replace hB1_2 := hB1_2.kp k3_2 nB1_2B2_0
  refine S_nil ?_
  refine T_tn ?_
  refine wp_seq ?_
  refine W_tail 2 mixed (by kernel_rfl) (fun w4_99 e4_99 => ?_)
  replace hE := hE.trans e4_99
  replace hB1_1 := hB1_1.ext e4_99
  replace hB1_2 := hB1_2.ext e4_99
  replace hB2_0 := hB2_0.ext e4_99
  refine T_v (R_sliceArrLo (len := 15) (i := 8) Tryz.underlying156 Tryz.sizeOf5 rfl rfl (by decide)) ?_
  refine T_v (R_sliceArr (len := 7) Tryz.underlying29 Tryz.sizeOf5 rfl) ?_
  refine T_nil ?_
  have h0 := hB2_0
  refine L (D_copyBlk (l' := ((a).l ++ (b).l)) Tryz.underlying32 Tryz.sizeOf5 rfl rfl hB2_0 rfl (hB1_1.bs 0 (b).b rfl rfl rfl) (bl_plain _) rfl (fun w4_2 k4_2 hB2_0 => ?_))
  replace hE := hE.kp k4_2 lB2_0
  replace hB1_1 := hB1_1.kp k4_2 nB1_1B2_0
  replace hB1_2 := hB1_2.kp k4_2 nB1_2B2_0
  refine S_nil ?_
  refine T_tn ?_
  refine wp_seq ?_
  refine W_region ?_
  refine L (D_v (R_move rfl) ?_)
  refine L (D_v (R_sliceArr (len := 15) Tryz.underlying156 Tryz.sizeOf5 rfl) ?_)
  refine L (D_call (R_callF Tryz.call70 rfl rfl) (c37 t (.slice (some ⟨aB2_0, 0, none⟩) 16 16) ((a.b ++ b.b)) _ (hB2_0.bs 0 (a.b ++ b.b) rfl rfl rfl) (by (try simp only [List.length_take, List.length_drop, List.length_append, List.length_cons, List.length_nil, List.length_replicate, List.length_set, Nm.b_len, be2_len]); omega)) (fun w5_2 e5_2 => ?_))
  replace hE := hE.trans e5_2
  replace hB1_2 := hB1_2.ext e5_2
  replace hB2_0 := hB2_0.ext e5_2
  have h0 := hB1_2
  refine L (D_storeA Tryz.sizeOf29 hB1_2 rfl rfl rfl rfl rfl (l' := ((hashB (t :: (a.b ++ b.b)))).l) rfl (fun w5_3 k5_3 hB1_2 => ?_))
  replace hE := hE.kp k5_3 lB1_2
  replace hB2_0 := hB2_0.kp k5_3 nB1_2B2_0.symm
  refine S_nil ?_
  refine T_tn ?_
  refine wp_ret ?_
  refine retc (c := ((hashB (t :: (a.b ++ b.b)))).l) rfl rfl Tryz.isAgg29 Tryz.sizeOf29 hB1_2 rfl rfl ⟨?_, hE⟩
  rfl
set_option maxRecDepth 4000 in
set_option maxHeartbeats 2000000 in
theorem c182s (F : Nat) (ih : ∀ (leaf : Nm) (i n : Nat) (v : Value) (path : List Nm) (w : World), n ≤ F → i < n → n ≤ 1000000 → path.length = dep F i n → Ls cN w.heap.size w v path → Calls Tryz.prog 123 [leaf.v, i64 ((i : Nat) : Int), i64 ((n : Nat) : Int), v].toArray w (Ret w (cmp F leaf i n path).v)) (leaf : Nm) (i n : Nat) (v : Value) (path : List Nm) (w : World) (hn : n ≤ F + 1) (hi : i < n) (hb : n ≤ 1000000) (hp : path.length = dep (F + 1) i n) (h : Ls cN w.heap.size w v path) : Calls Tryz.prog 123 [leaf.v, i64 ((i : Nat) : Int), i64 ((n : Nat) : Int), v].toArray w (Ret w (cmp (F + 1) leaf i n path).v) := by
  refine enter Tryz.func123 Tryz.ntmps123 rfl rfl ?_
  have hE := Ext.refl w
  have hpb := dep_le_n (F + 1) i n
  refine wp_seq ?_
  refine W_region ?_
  refine L (D_box (c := (leaf).l) (rfl) (fun aB1_0 w1_0 e1_0 gB1_0 hB1_0 => ?_))
  have lB1_0 := Nat.le_trans hE.size gB1_0
  replace hE := hE.trans e1_0
  refine L (D_alloc (c := (Nm.zero).l) Tryz.zeroValue29 rfl (fun aB1_1 w1_1 e1_1 gB1_1 hB1_1 => ?_))
  have lB1_1 := Nat.le_trans hE.size gB1_1
  have nB1_0B1_1 := hB1_0.ne gB1_1
  replace hE := hE.trans e1_1
  replace hB1_0 := hB1_0.ext e1_1
  refine S_nil ?_
  refine T_tn ?_
  refine wp_seq ?_
  refine wp_seq ?_
  refine W_region ?_
  refine L (D_v (R_move rfl) ?_)
  refine L (D_v (R_eqlI rfl rfl) ?_)
  refine S_nil ?_
  refine T_tn ?_
  refine W_if rfl (fun c1 => ?_) (fun c1 => ?_)
  ·
    obtain rfl : n = 1 := by simp at c1; omega
    refine wp_seq ?_
    refine W_region ?_
    refine L (D_v (R_loadA (c := (leaf).l) Tryz.isAgg29 Tryz.sizeOf29 hB1_0 rfl rfl rfl) ?_)
    refine L (D_call (R_callF Tryz.call134 rfl rfl) (c160 (leaf) _) (fun w3_1 e3_1 => ?_))
    replace hE := hE.trans e3_1
    replace hB1_0 := hB1_0.ext e3_1
    replace hB1_1 := hB1_1.ext e3_1
    have h0 := hB1_1
    refine L (D_storeA Tryz.sizeOf29 hB1_1 rfl rfl rfl rfl rfl (l' := ((leafH leaf)).l) rfl (fun w3_2 k3_2 hB1_1 => ?_))
    replace hE := hE.kp k3_2 lB1_1
    replace hB1_0 := hB1_0.kp k3_2 nB1_0B1_1
    refine S_nil ?_
    refine T_tn ?_
    refine wp_ret ?_
    refine T_tr ?_
    refine retc (c := ((leafH leaf)).l) rfl rfl Tryz.isAgg29 Tryz.sizeOf29 hB1_1 rfl rfl ⟨?_, hE⟩
    rw [cmp_one]; rfl
  ·
    have hn1 : n ≠ 1 := by intro e; subst e; simp at c1
    have hsb := split_bound (n := n) (by omega)
    have hpos : 1 ≤ path.length := by rw [hp]; exact (Nat.lt_or_ge i (split n)).elim (fun hj => by rw [dep_lo (by omega) hj]; omega) (fun hj => by rw [dep_hi (by omega) (by omega)]; omega)
    refine wp_skip ?_
    refine T_tn ?_
    refine wp_seq ?_
    refine W_region ?_
    refine L (D_v (R_move rfl) ?_)
    refine L (D_call (R_callF Tryz.call133 rfl rfl) (c161 (n) _ (by omega) (by omega)) (fun w3_1 e3_1 => ?_))
    replace hE := hE.trans e3_1
    replace hB1_0 := hB1_0.ext e3_1
    replace hB1_1 := hB1_1.ext e3_1
    refine L (D_v (R_move rfl) ?_)
    refine L (D_v (R_len Tryz.underlying22 rfl (h.ext hE).1) ?_)
    refine L (D_v (R_subN (m := (path).length) (j := 1) rfl rfl (by (try simp only [List.length_take, List.length_drop, List.length_append, List.length_cons, List.length_nil, List.length_replicate, List.length_set, Nm.b_len, be2_len]); omega) (by (try simp only [List.length_take, List.length_drop, List.length_append, List.length_cons, List.length_nil, List.length_replicate, List.length_set, Nm.b_len, be2_len]); omega)) ?_)
    refine L (D_v (R_assign rfl) ?_)
    refine L (D_v (R_assign rfl) ?_)
    refine S_nil ?_
    refine T_tn ?_
    refine wp_seq ?_
    refine wp_seq ?_
    refine W_region ?_
    refine L (D_v (R_move rfl) ?_)
    refine L (D_v (R_move rfl) ?_)
    refine L (D_v (R_lssI rfl rfl) ?_)
    refine S_nil ?_
    refine T_tn ?_
    refine W_if rfl (fun c2 => ?_) (fun c2 => ?_)
    ·
      have lk : i < split n := by simp at c2; omega
      rw [dep_lo (by omega) lk] at hp hpb
      refine wp_seq ?_
      refine W_held (fun W => Ext w W ∧ Blk W aB1_0 (leaf).l 29 ∧ True) mixed (fun w5_99 e5_99 => ?_)
      replace hE := hE.trans e5_99
      replace hB1_0 := hB1_0.ext e5_99
      replace hB1_1 := hB1_1.ext e5_99
      refine H_take (i := 0) rfl (by kernel_rfl) (by kernel_rfl) (by kernel_rfl) rfl (pq_then (pq_then pq_body)) ⟨hE, hB1_0, trivial⟩ rfl (fun w hw => R_loadA (c := (leaf).l) Tryz.isAgg29 Tryz.sizeOf29 hw.2.1 rfl rfl rfl) ?_
      refine H_take (i := 1) rfl (by kernel_rfl) (by kernel_rfl) (by kernel_rfl) rfl (pq_then (pq_then pq_body)) ⟨hE, hB1_0, trivial⟩ rfl (fun w hw => R_move rfl) ?_
      refine H_take (i := 2) rfl (by kernel_rfl) (by kernel_rfl) (by kernel_rfl) rfl (pq_then (pq_then pq_body)) ⟨hE, hB1_0, trivial⟩ rfl (fun w hw => R_move rfl) ?_
      refine H_take (i := 3) rfl (by kernel_rfl) (by kernel_rfl) (by kernel_rfl) rfl (pq_then (pq_then pq_body)) ⟨hE, hB1_0, trivial⟩ rfl (fun w hw => R_move rfl) ?_
      refine H_take (i := 4) rfl (by kernel_rfl) (by kernel_rfl) (by kernel_rfl) rfl (pq_then (pq_then pq_body)) ⟨hE, hB1_0, trivial⟩ rfl (fun w hw => R_move rfl) ?_
      refine H_take (i := 5) rfl (by kernel_rfl) (by kernel_rfl) (by kernel_rfl) rfl (pq_then (pq_then pq_body)) ⟨hE, hB1_0, trivial⟩ rfl (fun w hw => R_sliceHi (j := ((path).length - 1)) Tryz.underlying22 Tryz.sizeOf29 rfl rfl (h.ext hw.1).1 (by (try simp only [List.length_take, List.length_drop, List.length_append, List.length_cons, List.length_nil, List.length_replicate, List.length_set, Nm.b_len, be2_len]); omega)) ?_
      refine H_take (i := 7) rfl (by kernel_rfl) (by kernel_rfl) (by kernel_rfl) rfl (pq_then (pq_then pq_body)) ⟨hE, hB1_0, trivial⟩ rfl (fun w hw => R_move rfl) ?_
      refine H_take (i := 8) rfl (by kernel_rfl) (by kernel_rfl) (by kernel_rfl) rfl (pq_then (pq_then pq_body)) ⟨hE, hB1_0, trivial⟩ rfl (fun w hw => R_move rfl) ?_
      refine H_take (i := 9) rfl (by kernel_rfl) (by kernel_rfl) (by kernel_rfl) rfl (pq_then (pq_then pq_body)) ⟨hE, hB1_0, trivial⟩ rfl (fun w hw => R_elAddr (i := ((path).length - 1)) Tryz.underlying22 Tryz.sizeOf29 rfl rfl (h.ext hw.1).1 (by (try simp only [List.length_take, List.length_drop, List.length_append, List.length_cons, List.length_nil, List.length_replicate, List.length_set, Nm.b_len, be2_len]); omega)) ?_
      refine H_take (i := 10) rfl (by kernel_rfl) (by kernel_rfl) (by kernel_rfl) rfl (pq_then (pq_then pq_body)) ⟨hE, hB1_0, trivial⟩ rfl (fun w hw => R_ldL (C := cN) (i := ((path).length - 1)) (y := ((path).getD (((path).length - 1)) Nm.zero)) Tryz.isAgg29 Tryz.sizeOf29 rfl (h.ext hw.1) (getD_some (d := Nm.zero) (by (try simp only [List.length_take, List.length_drop, List.length_append, List.length_cons, List.length_nil, List.length_replicate, List.length_set, Nm.b_len, be2_len]); omega))) ?_
      refine H_op (i := 6) (by kernel_rfl) rfl rfl (D_call (R_callF Tryz.call123 rfl rfl) (ih (leaf) (i) ((split (n))) (cutV v (Cd.sz cN) (0) (((path).length - 1))) ((((path).drop (0)).take (((path).length - 1) - 0))) _ (by omega) (by omega) (by omega) (by simp only [List.length_take, List.length_drop]; omega) (((h.ext hE).cut (by (try simp only [List.length_take, List.length_drop, List.length_append, List.length_cons, List.length_nil, List.length_replicate, List.length_set, Nm.b_len, be2_len]); omega) (by (try simp only [List.length_take, List.length_drop, List.length_append, List.length_cons, List.length_nil, List.length_replicate, List.length_set, Nm.b_len, be2_len]); omega)).lev fun _ _ _ => trivial)) (fun w5_6 e5_6 => ?_))
      replace hE := hE.trans e5_6
      replace hB1_0 := hB1_0.ext e5_6
      replace hB1_1 := hB1_1.ext e5_6
      refine ⟨⟨hE, hB1_0, trivial⟩, ?_⟩
      refine H_op (i := 11) (by kernel_rfl) rfl rfl (D_call (R_callF Tryz.call135 rfl rfl) (c162 (18) ((cmp F leaf (i) ((split (n))) ((((path).drop (0)).take (((path).length - 1) - 0))))) (((path).getD (((path).length - 1)) Nm.zero)) _) (fun w5_11 e5_11 => ?_))
      replace hE := hE.trans e5_11
      replace hB1_0 := hB1_0.ext e5_11
      replace hB1_1 := hB1_1.ext e5_11
      refine ⟨⟨hE, hB1_0, trivial⟩, ?_⟩
      have h0 := hB1_1
      refine H_op (i := 12) (by kernel_rfl) rfl rfl (D_storeA Tryz.sizeOf29 hB1_1 rfl rfl rfl rfl rfl (l' := ((pairH 18 (cmp F leaf (i) ((split (n))) ((((path).drop (0)).take (((path).length - 1) - 0)))) ((path).getD (((path).length - 1)) Nm.zero))).l) rfl (fun w5_12 k5_12 hB1_1 => ?_))
      replace hE := hE.kp k5_12 lB1_1
      replace hB1_0 := hB1_0.kp k5_12 nB1_0B1_1
      refine ⟨⟨hE, hB1_0, trivial⟩, ?_⟩
      refine H_done (by kernel_rfl) ?_
      refine T_tn ?_
      refine wp_ret ?_
      refine T_tr ?_
      refine retc (c := ((pairH 18 (cmp F leaf (i) ((split (n))) ((((path).drop (0)).take (((path).length - 1) - 0)))) ((path).getD (((path).length - 1)) Nm.zero))).l) rfl rfl Tryz.isAgg29 Tryz.sizeOf29 hB1_1 rfl rfl ⟨?_, hE⟩
      rw [cmp_lo hn1 lk]; simp only [List.drop_zero, Nat.sub_zero]; rfl
    ·
      have lk : ¬ i < split n := by simp at c2; omega
      rw [dep_hi (by omega) lk] at hp hpb
      refine wp_skip ?_
      refine T_tn ?_
      refine wp_seq ?_
      refine W_held (fun W => Ext w W ∧ Blk W aB1_0 (leaf).l 29 ∧ True) mixed (fun w5_99 e5_99 => ?_)
      replace hE := hE.trans e5_99
      replace hB1_0 := hB1_0.ext e5_99
      replace hB1_1 := hB1_1.ext e5_99
      refine H_take (i := 0) rfl (by kernel_rfl) (by kernel_rfl) (by kernel_rfl) rfl (pq_then pq_body) ⟨hE, hB1_0, trivial⟩ rfl (fun w hw => R_move rfl) ?_
      refine H_take (i := 1) rfl (by kernel_rfl) (by kernel_rfl) (by kernel_rfl) rfl (pq_then pq_body) ⟨hE, hB1_0, trivial⟩ rfl (fun w hw => R_move rfl) ?_
      refine H_take (i := 2) rfl (by kernel_rfl) (by kernel_rfl) (by kernel_rfl) rfl (pq_then pq_body) ⟨hE, hB1_0, trivial⟩ rfl (fun w hw => R_elAddr (i := ((path).length - 1)) Tryz.underlying22 Tryz.sizeOf29 rfl rfl (h.ext hw.1).1 (by (try simp only [List.length_take, List.length_drop, List.length_append, List.length_cons, List.length_nil, List.length_replicate, List.length_set, Nm.b_len, be2_len]); omega)) ?_
      refine H_take (i := 3) rfl (by kernel_rfl) (by kernel_rfl) (by kernel_rfl) rfl (pq_then pq_body) ⟨hE, hB1_0, trivial⟩ rfl (fun w hw => R_ldL (C := cN) (i := ((path).length - 1)) (y := ((path).getD (((path).length - 1)) Nm.zero)) Tryz.isAgg29 Tryz.sizeOf29 rfl (h.ext hw.1) (getD_some (d := Nm.zero) (by (try simp only [List.length_take, List.length_drop, List.length_append, List.length_cons, List.length_nil, List.length_replicate, List.length_set, Nm.b_len, be2_len]); omega))) ?_
      refine H_take (i := 4) rfl (by kernel_rfl) (by kernel_rfl) (by kernel_rfl) rfl (pq_then pq_body) ⟨hE, hB1_0, trivial⟩ rfl (fun w hw => R_loadA (c := (leaf).l) Tryz.isAgg29 Tryz.sizeOf29 hw.2.1 rfl rfl rfl) ?_
      refine H_take (i := 5) rfl (by kernel_rfl) (by kernel_rfl) (by kernel_rfl) rfl (pq_then pq_body) ⟨hE, hB1_0, trivial⟩ rfl (fun w hw => R_move rfl) ?_
      refine H_take (i := 6) rfl (by kernel_rfl) (by kernel_rfl) (by kernel_rfl) rfl (pq_then pq_body) ⟨hE, hB1_0, trivial⟩ rfl (fun w hw => R_move rfl) ?_
      refine H_take (i := 7) rfl (by kernel_rfl) (by kernel_rfl) (by kernel_rfl) rfl (pq_then pq_body) ⟨hE, hB1_0, trivial⟩ rfl (fun w hw => R_subN (m := i) (j := (split (n))) rfl rfl (by (try simp only [List.length_take, List.length_drop, List.length_append, List.length_cons, List.length_nil, List.length_replicate, List.length_set, Nm.b_len, be2_len]); omega) (by (try simp only [List.length_take, List.length_drop, List.length_append, List.length_cons, List.length_nil, List.length_replicate, List.length_set, Nm.b_len, be2_len]); omega)) ?_
      refine H_take (i := 8) rfl (by kernel_rfl) (by kernel_rfl) (by kernel_rfl) rfl (pq_then pq_body) ⟨hE, hB1_0, trivial⟩ rfl (fun w hw => R_move rfl) ?_
      refine H_take (i := 9) rfl (by kernel_rfl) (by kernel_rfl) (by kernel_rfl) rfl (pq_then pq_body) ⟨hE, hB1_0, trivial⟩ rfl (fun w hw => R_move rfl) ?_
      refine H_take (i := 10) rfl (by kernel_rfl) (by kernel_rfl) (by kernel_rfl) rfl (pq_then pq_body) ⟨hE, hB1_0, trivial⟩ rfl (fun w hw => R_subN (m := n) (j := (split (n))) rfl rfl (by (try simp only [List.length_take, List.length_drop, List.length_append, List.length_cons, List.length_nil, List.length_replicate, List.length_set, Nm.b_len, be2_len]); omega) (by (try simp only [List.length_take, List.length_drop, List.length_append, List.length_cons, List.length_nil, List.length_replicate, List.length_set, Nm.b_len, be2_len]); omega)) ?_
      refine H_take (i := 11) rfl (by kernel_rfl) (by kernel_rfl) (by kernel_rfl) rfl (pq_then pq_body) ⟨hE, hB1_0, trivial⟩ rfl (fun w hw => R_move rfl) ?_
      refine H_take (i := 12) rfl (by kernel_rfl) (by kernel_rfl) (by kernel_rfl) rfl (pq_then pq_body) ⟨hE, hB1_0, trivial⟩ rfl (fun w hw => R_move rfl) ?_
      refine H_take (i := 13) rfl (by kernel_rfl) (by kernel_rfl) (by kernel_rfl) rfl (pq_then pq_body) ⟨hE, hB1_0, trivial⟩ rfl (fun w hw => R_sliceHi (j := ((path).length - 1)) Tryz.underlying22 Tryz.sizeOf29 rfl rfl (h.ext hw.1).1 (by (try simp only [List.length_take, List.length_drop, List.length_append, List.length_cons, List.length_nil, List.length_replicate, List.length_set, Nm.b_len, be2_len]); omega)) ?_
      refine H_op (i := 14) (by kernel_rfl) rfl rfl (D_call (R_callF Tryz.call123 rfl rfl) (ih (leaf) ((i - (split (n)))) ((n - (split (n)))) (cutV v (Cd.sz cN) (0) (((path).length - 1))) ((((path).drop (0)).take (((path).length - 1) - 0))) _ (by omega) (by omega) (by omega) (by simp only [List.length_take, List.length_drop]; omega) (((h.ext hE).cut (by (try simp only [List.length_take, List.length_drop, List.length_append, List.length_cons, List.length_nil, List.length_replicate, List.length_set, Nm.b_len, be2_len]); omega) (by (try simp only [List.length_take, List.length_drop, List.length_append, List.length_cons, List.length_nil, List.length_replicate, List.length_set, Nm.b_len, be2_len]); omega)).lev fun _ _ _ => trivial)) (fun w5_14 e5_14 => ?_))
      replace hE := hE.trans e5_14
      replace hB1_0 := hB1_0.ext e5_14
      replace hB1_1 := hB1_1.ext e5_14
      refine ⟨⟨hE, hB1_0, trivial⟩, ?_⟩
      refine H_op (i := 15) (by kernel_rfl) rfl rfl (D_call (R_callF Tryz.call135 rfl rfl) (c162 (18) (((path).getD (((path).length - 1)) Nm.zero)) ((cmp F leaf ((i - (split (n)))) ((n - (split (n)))) ((((path).drop (0)).take (((path).length - 1) - 0))))) _) (fun w5_15 e5_15 => ?_))
      replace hE := hE.trans e5_15
      replace hB1_0 := hB1_0.ext e5_15
      replace hB1_1 := hB1_1.ext e5_15
      refine ⟨⟨hE, hB1_0, trivial⟩, ?_⟩
      have h0 := hB1_1
      refine H_op (i := 16) (by kernel_rfl) rfl rfl (D_storeA Tryz.sizeOf29 hB1_1 rfl rfl rfl rfl rfl (l' := ((pairH 18 ((path).getD (((path).length - 1)) Nm.zero) (cmp F leaf ((i - (split (n)))) ((n - (split (n)))) ((((path).drop (0)).take (((path).length - 1) - 0)))))).l) rfl (fun w5_16 k5_16 hB1_1 => ?_))
      replace hE := hE.kp k5_16 lB1_1
      replace hB1_0 := hB1_0.kp k5_16 nB1_0B1_1
      refine ⟨⟨hE, hB1_0, trivial⟩, ?_⟩
      refine H_done (by kernel_rfl) ?_
      refine T_tn ?_
      refine wp_ret ?_
      refine retc (c := ((pairH 18 ((path).getD (((path).length - 1)) Nm.zero) (cmp F leaf ((i - (split (n)))) ((n - (split (n)))) ((((path).drop (0)).take (((path).length - 1) - 0)))))).l) rfl rfl Tryz.isAgg29 Tryz.sizeOf29 hB1_1 rfl rfl ⟨?_, hE⟩
      rw [cmp_hi hn1 lk]; simp only [List.drop_zero, Nat.sub_zero]; rfl
theorem c182 (F : Nat) : ∀ (leaf : Nm) (i n : Nat) (v : Value) (path : List Nm) (w : World), n ≤ F → i < n → n ≤ 1000000 → path.length = dep F i n → Ls cN w.heap.size w v path → Calls Tryz.prog 123 [leaf.v, i64 ((i : Nat) : Int), i64 ((n : Nat) : Int), v].toArray w (Ret w (cmp F leaf i n path).v) := by
  induction F with
  | zero => intro leaf i n v path w h1 h2; omega
  | succ F ih => exact fun leaf i n v path w h1 h2 h3 h4 h5 => c182s F ih leaf i n v path w h1 h2 h3 h4 h5
set_option maxRecDepth 4000 in
set_option maxHeartbeats 2000000 in
theorem c185s (F : Nat) (ih : ∀ (leaf : Nm) (i n : Nat) (v : Value) (path : List Nm) (w : World), n ≤ F → i < n → n ≤ 1000000 → path.length = dep F i n → Ls cN w.heap.size w v path → Calls Tryz.prog 101 [leaf.v, i64 ((i : Nat) : Int), i64 ((n : Nat) : Int), v].toArray w (Ret w (cmp F leaf i n path).v)) (leaf : Nm) (i n : Nat) (v : Value) (path : List Nm) (w : World) (hn : n ≤ F + 1) (hi : i < n) (hb : n ≤ 1000000) (hp : path.length = dep (F + 1) i n) (h : Ls cN w.heap.size w v path) : Calls Tryz.prog 101 [leaf.v, i64 ((i : Nat) : Int), i64 ((n : Nat) : Int), v].toArray w (Ret w (cmp (F + 1) leaf i n path).v) := by
  refine enter Tryz.func101 Tryz.ntmps101 rfl rfl ?_
  have hE := Ext.refl w
  have hpb := dep_le_n (F + 1) i n
  refine wp_seq ?_
  refine W_region ?_
  refine L (D_box (c := (leaf).l) (rfl) (fun aB1_0 w1_0 e1_0 gB1_0 hB1_0 => ?_))
  have lB1_0 := Nat.le_trans hE.size gB1_0
  replace hE := hE.trans e1_0
  refine L (D_alloc (c := (Nm.zero).l) Tryz.zeroValue29 rfl (fun aB1_1 w1_1 e1_1 gB1_1 hB1_1 => ?_))
  have lB1_1 := Nat.le_trans hE.size gB1_1
  have nB1_0B1_1 := hB1_0.ne gB1_1
  replace hE := hE.trans e1_1
  replace hB1_0 := hB1_0.ext e1_1
  refine S_nil ?_
  refine T_tn ?_
  refine wp_seq ?_
  refine wp_seq ?_
  refine W_region ?_
  refine L (D_v (R_move rfl) ?_)
  refine L (D_v (R_eqlI rfl rfl) ?_)
  refine S_nil ?_
  refine T_tn ?_
  refine W_if rfl (fun c1 => ?_) (fun c1 => ?_)
  ·
    obtain rfl : n = 1 := by simp at c1; omega
    refine wp_seq ?_
    refine W_region ?_
    refine L (D_v (R_sliceArr (len := 7) Tryz.underlying29 Tryz.sizeOf5 rfl) ?_)
    refine L (D_call (R_callF Tryz.call60 rfl rfl) (c88 (17) (.slice (some ⟨aB1_0, 0, none⟩) 8 8) ((leaf).b) _ (hB1_0.bs 0 (leaf).b rfl rfl rfl) (by (try simp only [List.length_take, List.length_drop, List.length_append, List.length_cons, List.length_nil, List.length_replicate, List.length_set, Nm.b_len, be2_len]); omega)) (fun w3_1 e3_1 => ?_))
    replace hE := hE.trans e3_1
    replace hB1_0 := hB1_0.ext e3_1
    replace hB1_1 := hB1_1.ext e3_1
    have h0 := hB1_1
    refine L (D_storeA Tryz.sizeOf29 hB1_1 rfl rfl rfl rfl rfl (l' := ((hashB (17 :: (leaf).b))).l) rfl (fun w3_2 k3_2 hB1_1 => ?_))
    replace hE := hE.kp k3_2 lB1_1
    replace hB1_0 := hB1_0.kp k3_2 nB1_0B1_1
    refine S_nil ?_
    refine T_tn ?_
    refine wp_ret ?_
    refine T_tr ?_
    refine retc (c := ((hashB (17 :: (leaf).b))).l) rfl rfl Tryz.isAgg29 Tryz.sizeOf29 hB1_1 rfl rfl ⟨?_, hE⟩
    rw [cmp_one]; rfl
  ·
    have hn1 : n ≠ 1 := by intro e; subst e; simp at c1
    have hsb := split_bound (n := n) (by omega)
    have hpos : 1 ≤ path.length := by rw [hp]; exact (Nat.lt_or_ge i (split n)).elim (fun hj => by rw [dep_lo (by omega) hj]; omega) (fun hj => by rw [dep_hi (by omega) (by omega)]; omega)
    refine wp_skip ?_
    refine T_tn ?_
    refine wp_seq ?_
    refine W_cut (R := fun g W => ∃ (aB3_8 : Nat), (g 1 = i64 ((i : Nat) : Int)) ∧ (g 2 = i64 ((n : Nat) : Int)) ∧ (g 3 = v) ∧ (g 4 = .pointer (some ⟨aB1_0, 0, none⟩)) ∧ (g 8 = .pointer (some ⟨aB1_1, 0, none⟩)) ∧ (g 9 = i64 (((split (n)) : Nat) : Int)) ∧ (g 10 = .pointer (some ⟨aB3_8, 0, none⟩)) ∧ Ext w W ∧ Blk W aB1_0 (leaf).l 29 ∧ Blk W aB1_1 (Nm.zero).l 29 ∧ Blk W aB3_8 (((path).getD (((path).length - 1)) Nm.zero)).l 29 ∧ w.heap.size ≤ aB3_8 ∧ aB1_0 ≠ aB3_8 ∧ aB1_1 ≠ aB3_8) ?_ ?_
    ·
      refine W_held (fun W => Ext w W ∧ Blk W aB1_0 (leaf).l 29 ∧ Blk W aB1_1 (Nm.zero).l 29 ∧ True) mixed (fun w3_99 e3_99 => ?_)
      replace hE := hE.trans e3_99
      replace hB1_0 := hB1_0.ext e3_99
      replace hB1_1 := hB1_1.ext e3_99
      refine H_take (i := 0) rfl (by kernel_rfl) (by kernel_rfl) (by kernel_rfl) rfl pq_cut ⟨hE, hB1_0, hB1_1, trivial⟩ rfl (fun w hw => R_move rfl) ?_
      refine H_take (i := 2) rfl (by kernel_rfl) (by kernel_rfl) (by kernel_rfl) rfl pq_cut ⟨hE, hB1_0, hB1_1, trivial⟩ rfl (fun w hw => R_move rfl) ?_
      refine H_take (i := 3) rfl (by kernel_rfl) (by kernel_rfl) (by kernel_rfl) rfl pq_cut ⟨hE, hB1_0, hB1_1, trivial⟩ rfl (fun w hw => R_move rfl) ?_
      refine H_take (i := 4) rfl (by kernel_rfl) (by kernel_rfl) (by kernel_rfl) rfl pq_cut ⟨hE, hB1_0, hB1_1, trivial⟩ rfl (fun w hw => R_len Tryz.underlying22 rfl (h.ext hw.1).1) ?_
      refine H_take (i := 5) rfl (by kernel_rfl) (by kernel_rfl) (by kernel_rfl) rfl pq_cut ⟨hE, hB1_0, hB1_1, trivial⟩ rfl (fun w hw => R_subN (m := (path).length) (j := 1) rfl rfl (by (try simp only [List.length_take, List.length_drop, List.length_append, List.length_cons, List.length_nil, List.length_replicate, List.length_set, Nm.b_len, be2_len]); omega) (by (try simp only [List.length_take, List.length_drop, List.length_append, List.length_cons, List.length_nil, List.length_replicate, List.length_set, Nm.b_len, be2_len]); omega)) ?_
      refine H_take (i := 6) rfl (by kernel_rfl) (by kernel_rfl) (by kernel_rfl) rfl pq_cut ⟨hE, hB1_0, hB1_1, trivial⟩ rfl (fun w hw => R_elAddr (i := ((path).length - 1)) Tryz.underlying22 Tryz.sizeOf29 rfl rfl (h.ext hw.1).1 (by (try simp only [List.length_take, List.length_drop, List.length_append, List.length_cons, List.length_nil, List.length_replicate, List.length_set, Nm.b_len, be2_len]); omega)) ?_
      refine H_take (i := 7) rfl (by kernel_rfl) (by kernel_rfl) (by kernel_rfl) rfl pq_cut ⟨hE, hB1_0, hB1_1, trivial⟩ rfl (fun w hw => R_ldL (C := cN) (i := ((path).length - 1)) (y := ((path).getD (((path).length - 1)) Nm.zero)) Tryz.isAgg29 Tryz.sizeOf29 rfl (h.ext hw.1) (getD_some (d := Nm.zero) (by (try simp only [List.length_take, List.length_drop, List.length_append, List.length_cons, List.length_nil, List.length_replicate, List.length_set, Nm.b_len, be2_len]); omega))) ?_
      refine H_op2 (i := 1) (i2 := 8) (by kernel_rfl) rfl rfl rfl rfl ?_ ?_
      ·
        refine D_call (R_callF Tryz.call61 rfl rfl) (c141 (n) _ (by omega) (by omega)) (fun w3_1 e3_1 => ?_)
        replace hE := hE.trans e3_1
        replace hB1_0 := hB1_0.ext e3_1
        replace hB1_1 := hB1_1.ext e3_1
        refine ⟨⟨hE, hB1_0, hB1_1, trivial⟩, ?_⟩
        refine H_op (i := 8) (by kernel_rfl) rfl rfl (D_alloc (c := (Nm.zero).l) Tryz.zeroValue29 rfl (fun aB3_8 w3_8 e3_8 gB3_8 hB3_8 => ?_))
        have lB3_8 := Nat.le_trans hE.size gB3_8
        have nB1_0B3_8 := hB1_0.ne gB3_8
        have nB1_1B3_8 := hB1_1.ne gB3_8
        replace hE := hE.trans e3_8
        replace hB1_0 := hB1_0.ext e3_8
        replace hB1_1 := hB1_1.ext e3_8
        refine ⟨⟨hE, hB1_0, hB1_1, trivial⟩, ?_⟩
        refine H_take (i := 9) rfl (by kernel_rfl) (by kernel_rfl) (by kernel_rfl) rfl pq_cut ⟨hE, hB1_0, hB1_1, trivial⟩ rfl (fun w hw => R_assign rfl) ?_
        have h0 := hB3_8
        refine H_op (i := 10) (by kernel_rfl) rfl rfl (D_storeA Tryz.sizeOf29 hB3_8 rfl rfl rfl rfl rfl (l' := (((path).getD (((path).length - 1)) Nm.zero)).l) rfl (fun w3_10 k3_10 hB3_8 => ?_))
        replace hE := hE.kp k3_10 lB3_8
        replace hB1_0 := hB1_0.kp k3_10 nB1_0B3_8
        replace hB1_1 := hB1_1.kp k3_10 nB1_1B3_8
        refine ⟨⟨hE, hB1_0, hB1_1, trivial⟩, ?_⟩
        refine H_done (by kernel_rfl) ?_
        exact ⟨rfl, _, rfl, _, rfl, rfl, rfl, rfl, rfl, rfl, rfl, hE, hB1_0, hB1_1, hB3_8, lB3_8, nB1_0B3_8, nB1_1B3_8⟩
      ·
        refine D_alloc (c := (Nm.zero).l) Tryz.zeroValue29 rfl (fun aB3_8 w3_8 e3_8 gB3_8 hB3_8 => ?_)
        have lB3_8 := Nat.le_trans hE.size gB3_8
        have nB1_0B3_8 := hB1_0.ne gB3_8
        have nB1_1B3_8 := hB1_1.ne gB3_8
        replace hE := hE.trans e3_8
        replace hB1_0 := hB1_0.ext e3_8
        replace hB1_1 := hB1_1.ext e3_8
        refine ⟨⟨hE, hB1_0, hB1_1, trivial⟩, ?_⟩
        refine H_op (i := 1) (by kernel_rfl) rfl rfl (D_call (R_callF Tryz.call61 rfl rfl) (c141 (n) _ (by omega) (by omega)) (fun w3_1 e3_1 => ?_))
        replace hE := hE.trans e3_1
        replace hB1_0 := hB1_0.ext e3_1
        replace hB1_1 := hB1_1.ext e3_1
        replace hB3_8 := hB3_8.ext e3_1
        refine ⟨⟨hE, hB1_0, hB1_1, trivial⟩, ?_⟩
        refine H_take (i := 9) rfl (by kernel_rfl) (by kernel_rfl) (by kernel_rfl) rfl pq_cut ⟨hE, hB1_0, hB1_1, trivial⟩ rfl (fun w hw => R_assign rfl) ?_
        have h0 := hB3_8
        refine H_op (i := 10) (by kernel_rfl) rfl rfl (D_storeA Tryz.sizeOf29 hB3_8 rfl rfl rfl rfl rfl (l' := (((path).getD (((path).length - 1)) Nm.zero)).l) rfl (fun w3_10 k3_10 hB3_8 => ?_))
        replace hE := hE.kp k3_10 lB3_8
        replace hB1_0 := hB1_0.kp k3_10 nB1_0B3_8
        replace hB1_1 := hB1_1.kp k3_10 nB1_1B3_8
        refine ⟨⟨hE, hB1_0, hB1_1, trivial⟩, ?_⟩
        refine H_done (by kernel_rfl) ?_
        exact ⟨rfl, _, rfl, _, rfl, rfl, rfl, rfl, rfl, rfl, rfl, hE, hB1_0, hB1_1, hB3_8, lB3_8, nB1_0B3_8, nB1_1B3_8⟩
    rintro f3 w3c ⟨aB3_8, q1, q2, q3, q4, q8, q9, q10, hE, hB1_0, hB1_1, hB3_8, lB3_8, nB1_0B3_8, nB1_1B3_8⟩
    refine T_tn ?_
    refine wp_seq ?_
    refine wp_seq ?_
    refine W_region ?_
    refine L (D_v (R_move q1) ?_)
    refine L (D_v (R_move q9) ?_)
    refine L (D_v (R_lssI rfl rfl) ?_)
    refine S_nil ?_
    refine T_tn ?_
    refine W_if rfl (fun c2 => ?_) (fun c2 => ?_)
    ·
      have lk : i < split n := by simp at c2; omega
      rw [dep_lo (by omega) lk] at hp hpb
      refine wp_seq ?_
      refine W_held (fun W => Ext w W ∧ Blk W aB1_0 (leaf).l 29 ∧ Blk W aB3_8 (((path).getD (((path).length - 1)) Nm.zero)).l 29 ∧ True) mixed (fun w5_99 e5_99 => ?_)
      replace hE := hE.trans e5_99
      replace hB1_0 := hB1_0.ext e5_99
      replace hB1_1 := hB1_1.ext e5_99
      replace hB3_8 := hB3_8.ext e5_99
      refine H_take (i := 0) rfl (by kernel_rfl) (by kernel_rfl) (by kernel_rfl) rfl (pq_then (pq_then pq_body)) ⟨hE, hB1_0, hB3_8, trivial⟩ rfl (fun w hw => R_loadA (c := (leaf).l) Tryz.isAgg29 Tryz.sizeOf29 hw.2.1 q4 rfl rfl) ?_
      refine H_take (i := 1) rfl (by kernel_rfl) (by kernel_rfl) (by kernel_rfl) rfl (pq_then (pq_then pq_body)) ⟨hE, hB1_0, hB3_8, trivial⟩ rfl (fun w hw => R_move q1) ?_
      refine H_take (i := 2) rfl (by kernel_rfl) (by kernel_rfl) (by kernel_rfl) rfl (pq_then (pq_then pq_body)) ⟨hE, hB1_0, hB3_8, trivial⟩ rfl (fun w hw => R_move q9) ?_
      refine H_take (i := 3) rfl (by kernel_rfl) (by kernel_rfl) (by kernel_rfl) rfl (pq_then (pq_then pq_body)) ⟨hE, hB1_0, hB3_8, trivial⟩ rfl (fun w hw => R_move q3) ?_
      refine H_take (i := 4) rfl (by kernel_rfl) (by kernel_rfl) (by kernel_rfl) rfl (pq_then (pq_then pq_body)) ⟨hE, hB1_0, hB3_8, trivial⟩ rfl (fun w hw => R_move q3) ?_
      refine H_take (i := 5) rfl (by kernel_rfl) (by kernel_rfl) (by kernel_rfl) rfl (pq_then (pq_then pq_body)) ⟨hE, hB1_0, hB3_8, trivial⟩ rfl (fun w hw => R_len Tryz.underlying22 rfl (h.ext hw.1).1) ?_
      refine H_take (i := 6) rfl (by kernel_rfl) (by kernel_rfl) (by kernel_rfl) rfl (pq_then (pq_then pq_body)) ⟨hE, hB1_0, hB3_8, trivial⟩ rfl (fun w hw => R_subN (m := (path).length) (j := 1) rfl rfl (by (try simp only [List.length_take, List.length_drop, List.length_append, List.length_cons, List.length_nil, List.length_replicate, List.length_set, Nm.b_len, be2_len]); omega) (by (try simp only [List.length_take, List.length_drop, List.length_append, List.length_cons, List.length_nil, List.length_replicate, List.length_set, Nm.b_len, be2_len]); omega)) ?_
      refine H_take (i := 7) rfl (by kernel_rfl) (by kernel_rfl) (by kernel_rfl) rfl (pq_then (pq_then pq_body)) ⟨hE, hB1_0, hB3_8, trivial⟩ rfl (fun w hw => R_sliceHi (j := ((path).length - 1)) Tryz.underlying22 Tryz.sizeOf29 rfl rfl (h.ext hw.1).1 (by (try simp only [List.length_take, List.length_drop, List.length_append, List.length_cons, List.length_nil, List.length_replicate, List.length_set, Nm.b_len, be2_len]); omega)) ?_
      refine H_take (i := 9) rfl (by kernel_rfl) (by kernel_rfl) (by kernel_rfl) rfl (pq_then (pq_then pq_body)) ⟨hE, hB1_0, hB3_8, trivial⟩ rfl (fun w hw => R_loadA (c := (((path).getD (((path).length - 1)) Nm.zero)).l) Tryz.isAgg29 Tryz.sizeOf29 hw.2.2.1 q10 rfl rfl) ?_
      refine H_op (i := 8) (by kernel_rfl) rfl rfl (D_call (R_callF Tryz.call101 rfl rfl) (ih (leaf) (i) ((split (n))) (cutV v (Cd.sz cN) (0) (((path).length - 1))) ((((path).drop (0)).take (((path).length - 1) - 0))) _ (by omega) (by omega) (by omega) (by simp only [List.length_take, List.length_drop]; omega) (((h.ext hE).cut (by (try simp only [List.length_take, List.length_drop, List.length_append, List.length_cons, List.length_nil, List.length_replicate, List.length_set, Nm.b_len, be2_len]); omega) (by (try simp only [List.length_take, List.length_drop, List.length_append, List.length_cons, List.length_nil, List.length_replicate, List.length_set, Nm.b_len, be2_len]); omega)).lev fun _ _ _ => trivial)) (fun w5_8 e5_8 => ?_))
      replace hE := hE.trans e5_8
      replace hB1_0 := hB1_0.ext e5_8
      replace hB1_1 := hB1_1.ext e5_8
      replace hB3_8 := hB3_8.ext e5_8
      refine ⟨⟨hE, hB1_0, hB3_8, trivial⟩, ?_⟩
      refine H_op (i := 10) (by kernel_rfl) rfl rfl (D_call (R_callF Tryz.call62 rfl rfl) (c173 (18) ((cmp F leaf (i) ((split (n))) ((((path).drop (0)).take (((path).length - 1) - 0))))) (((path).getD (((path).length - 1)) Nm.zero)) _) (fun w5_10 e5_10 => ?_))
      replace hE := hE.trans e5_10
      replace hB1_0 := hB1_0.ext e5_10
      replace hB1_1 := hB1_1.ext e5_10
      replace hB3_8 := hB3_8.ext e5_10
      refine ⟨⟨hE, hB1_0, hB3_8, trivial⟩, ?_⟩
      have h0 := hB1_1
      refine H_op (i := 11) (by kernel_rfl) rfl rfl (D_storeA Tryz.sizeOf29 hB1_1 q8 rfl rfl rfl rfl (l' := ((pairH 18 (cmp F leaf (i) ((split (n))) ((((path).drop (0)).take (((path).length - 1) - 0)))) ((path).getD (((path).length - 1)) Nm.zero))).l) rfl (fun w5_11 k5_11 hB1_1 => ?_))
      replace hE := hE.kp k5_11 lB1_1
      replace hB1_0 := hB1_0.kp k5_11 nB1_0B1_1
      replace hB3_8 := hB3_8.kp k5_11 nB1_1B3_8.symm
      refine ⟨⟨hE, hB1_0, hB3_8, trivial⟩, ?_⟩
      refine H_done (by kernel_rfl) ?_
      refine T_tn ?_
      refine wp_ret ?_
      refine T_tr ?_
      refine retc (c := ((pairH 18 (cmp F leaf (i) ((split (n))) ((((path).drop (0)).take (((path).length - 1) - 0)))) ((path).getD (((path).length - 1)) Nm.zero))).l) rfl q8 Tryz.isAgg29 Tryz.sizeOf29 hB1_1 rfl rfl ⟨?_, hE⟩
      rw [cmp_lo hn1 lk]; simp only [List.drop_zero, Nat.sub_zero]; rfl
    ·
      have lk : ¬ i < split n := by simp at c2; omega
      rw [dep_hi (by omega) lk] at hp hpb
      refine wp_skip ?_
      refine T_tn ?_
      refine wp_seq ?_
      refine W_held (fun W => Ext w W ∧ Blk W aB1_0 (leaf).l 29 ∧ Blk W aB3_8 (((path).getD (((path).length - 1)) Nm.zero)).l 29 ∧ True) mixed (fun w5_99 e5_99 => ?_)
      replace hE := hE.trans e5_99
      replace hB1_0 := hB1_0.ext e5_99
      replace hB1_1 := hB1_1.ext e5_99
      replace hB3_8 := hB3_8.ext e5_99
      refine H_take (i := 0) rfl (by kernel_rfl) (by kernel_rfl) (by kernel_rfl) rfl (pq_then pq_body) ⟨hE, hB1_0, hB3_8, trivial⟩ rfl (fun w hw => R_loadA (c := (((path).getD (((path).length - 1)) Nm.zero)).l) Tryz.isAgg29 Tryz.sizeOf29 hw.2.2.1 q10 rfl rfl) ?_
      refine H_take (i := 1) rfl (by kernel_rfl) (by kernel_rfl) (by kernel_rfl) rfl (pq_then pq_body) ⟨hE, hB1_0, hB3_8, trivial⟩ rfl (fun w hw => R_loadA (c := (leaf).l) Tryz.isAgg29 Tryz.sizeOf29 hw.2.1 q4 rfl rfl) ?_
      refine H_take (i := 2) rfl (by kernel_rfl) (by kernel_rfl) (by kernel_rfl) rfl (pq_then pq_body) ⟨hE, hB1_0, hB3_8, trivial⟩ rfl (fun w hw => R_move q1) ?_
      refine H_take (i := 3) rfl (by kernel_rfl) (by kernel_rfl) (by kernel_rfl) rfl (pq_then pq_body) ⟨hE, hB1_0, hB3_8, trivial⟩ rfl (fun w hw => R_move q9) ?_
      refine H_take (i := 4) rfl (by kernel_rfl) (by kernel_rfl) (by kernel_rfl) rfl (pq_then pq_body) ⟨hE, hB1_0, hB3_8, trivial⟩ rfl (fun w hw => R_subN (m := i) (j := (split (n))) rfl rfl (by (try simp only [List.length_take, List.length_drop, List.length_append, List.length_cons, List.length_nil, List.length_replicate, List.length_set, Nm.b_len, be2_len]); omega) (by (try simp only [List.length_take, List.length_drop, List.length_append, List.length_cons, List.length_nil, List.length_replicate, List.length_set, Nm.b_len, be2_len]); omega)) ?_
      refine H_take (i := 5) rfl (by kernel_rfl) (by kernel_rfl) (by kernel_rfl) rfl (pq_then pq_body) ⟨hE, hB1_0, hB3_8, trivial⟩ rfl (fun w hw => R_move q2) ?_
      refine H_take (i := 6) rfl (by kernel_rfl) (by kernel_rfl) (by kernel_rfl) rfl (pq_then pq_body) ⟨hE, hB1_0, hB3_8, trivial⟩ rfl (fun w hw => R_move q9) ?_
      refine H_take (i := 7) rfl (by kernel_rfl) (by kernel_rfl) (by kernel_rfl) rfl (pq_then pq_body) ⟨hE, hB1_0, hB3_8, trivial⟩ rfl (fun w hw => R_subN (m := n) (j := (split (n))) rfl rfl (by (try simp only [List.length_take, List.length_drop, List.length_append, List.length_cons, List.length_nil, List.length_replicate, List.length_set, Nm.b_len, be2_len]); omega) (by (try simp only [List.length_take, List.length_drop, List.length_append, List.length_cons, List.length_nil, List.length_replicate, List.length_set, Nm.b_len, be2_len]); omega)) ?_
      refine H_take (i := 8) rfl (by kernel_rfl) (by kernel_rfl) (by kernel_rfl) rfl (pq_then pq_body) ⟨hE, hB1_0, hB3_8, trivial⟩ rfl (fun w hw => R_move q3) ?_
      refine H_take (i := 9) rfl (by kernel_rfl) (by kernel_rfl) (by kernel_rfl) rfl (pq_then pq_body) ⟨hE, hB1_0, hB3_8, trivial⟩ rfl (fun w hw => R_move q3) ?_
      refine H_take (i := 10) rfl (by kernel_rfl) (by kernel_rfl) (by kernel_rfl) rfl (pq_then pq_body) ⟨hE, hB1_0, hB3_8, trivial⟩ rfl (fun w hw => R_len Tryz.underlying22 rfl (h.ext hw.1).1) ?_
      refine H_take (i := 11) rfl (by kernel_rfl) (by kernel_rfl) (by kernel_rfl) rfl (pq_then pq_body) ⟨hE, hB1_0, hB3_8, trivial⟩ rfl (fun w hw => R_subN (m := (path).length) (j := 1) rfl rfl (by (try simp only [List.length_take, List.length_drop, List.length_append, List.length_cons, List.length_nil, List.length_replicate, List.length_set, Nm.b_len, be2_len]); omega) (by (try simp only [List.length_take, List.length_drop, List.length_append, List.length_cons, List.length_nil, List.length_replicate, List.length_set, Nm.b_len, be2_len]); omega)) ?_
      refine H_take (i := 12) rfl (by kernel_rfl) (by kernel_rfl) (by kernel_rfl) rfl (pq_then pq_body) ⟨hE, hB1_0, hB3_8, trivial⟩ rfl (fun w hw => R_sliceHi (j := ((path).length - 1)) Tryz.underlying22 Tryz.sizeOf29 rfl rfl (h.ext hw.1).1 (by (try simp only [List.length_take, List.length_drop, List.length_append, List.length_cons, List.length_nil, List.length_replicate, List.length_set, Nm.b_len, be2_len]); omega)) ?_
      refine H_op (i := 13) (by kernel_rfl) rfl rfl (D_call (R_callF Tryz.call101 rfl rfl) (ih (leaf) ((i - (split (n)))) ((n - (split (n)))) (cutV v (Cd.sz cN) (0) (((path).length - 1))) ((((path).drop (0)).take (((path).length - 1) - 0))) _ (by omega) (by omega) (by omega) (by simp only [List.length_take, List.length_drop]; omega) (((h.ext hE).cut (by (try simp only [List.length_take, List.length_drop, List.length_append, List.length_cons, List.length_nil, List.length_replicate, List.length_set, Nm.b_len, be2_len]); omega) (by (try simp only [List.length_take, List.length_drop, List.length_append, List.length_cons, List.length_nil, List.length_replicate, List.length_set, Nm.b_len, be2_len]); omega)).lev fun _ _ _ => trivial)) (fun w5_13 e5_13 => ?_))
      replace hE := hE.trans e5_13
      replace hB1_0 := hB1_0.ext e5_13
      replace hB1_1 := hB1_1.ext e5_13
      replace hB3_8 := hB3_8.ext e5_13
      refine ⟨⟨hE, hB1_0, hB3_8, trivial⟩, ?_⟩
      refine H_op (i := 14) (by kernel_rfl) rfl rfl (D_call (R_callF Tryz.call62 rfl rfl) (c173 (18) (((path).getD (((path).length - 1)) Nm.zero)) ((cmp F leaf ((i - (split (n)))) ((n - (split (n)))) ((((path).drop (0)).take (((path).length - 1) - 0))))) _) (fun w5_14 e5_14 => ?_))
      replace hE := hE.trans e5_14
      replace hB1_0 := hB1_0.ext e5_14
      replace hB1_1 := hB1_1.ext e5_14
      replace hB3_8 := hB3_8.ext e5_14
      refine ⟨⟨hE, hB1_0, hB3_8, trivial⟩, ?_⟩
      have h0 := hB1_1
      refine H_op (i := 15) (by kernel_rfl) rfl rfl (D_storeA Tryz.sizeOf29 hB1_1 q8 rfl rfl rfl rfl (l' := ((pairH 18 ((path).getD (((path).length - 1)) Nm.zero) (cmp F leaf ((i - (split (n)))) ((n - (split (n)))) ((((path).drop (0)).take (((path).length - 1) - 0)))))).l) rfl (fun w5_15 k5_15 hB1_1 => ?_))
      replace hE := hE.kp k5_15 lB1_1
      replace hB1_0 := hB1_0.kp k5_15 nB1_0B1_1
      replace hB3_8 := hB3_8.kp k5_15 nB1_1B3_8.symm
      refine ⟨⟨hE, hB1_0, hB3_8, trivial⟩, ?_⟩
      refine H_done (by kernel_rfl) ?_
      refine T_tn ?_
      refine wp_ret ?_
      refine retc (c := ((pairH 18 ((path).getD (((path).length - 1)) Nm.zero) (cmp F leaf ((i - (split (n)))) ((n - (split (n)))) ((((path).drop (0)).take (((path).length - 1) - 0)))))).l) rfl q8 Tryz.isAgg29 Tryz.sizeOf29 hB1_1 rfl rfl ⟨?_, hE⟩
      rw [cmp_hi hn1 lk]; simp only [List.drop_zero, Nat.sub_zero]; rfl
theorem c185 (F : Nat) : ∀ (leaf : Nm) (i n : Nat) (v : Value) (path : List Nm) (w : World), n ≤ F → i < n → n ≤ 1000000 → path.length = dep F i n → Ls cN w.heap.size w v path → Calls Tryz.prog 101 [leaf.v, i64 ((i : Nat) : Int), i64 ((n : Nat) : Int), v].toArray w (Ret w (cmp F leaf i n path).v) := by
  induction F with
  | zero => intro leaf i n v path w h1 h2; omega
  | succ F ih => exact fun leaf i n v path w h1 h2 h3 h4 h5 => c185s F ih leaf i n v path w h1 h2 h3 h4 h5
set_option maxRecDepth 4000 in
set_option maxHeartbeats 2000000 in
theorem c166s (leaf : Nm) (i n : Nat) (v : Value) (path : List Nm) (D : Int) (w : World) (hD : D = ((dep n i n : Nat) : Int)) (hi : i < n) (hb : n ≤ 1000000) (hp : path.length = dep n i n) (h : Ls cN w.heap.size w v path) : Calls Tryz.prog 96 [leaf.v, i64 ((i : Nat) : Int), i64 ((n : Nat) : Int), v].toArray w (Ret w (.tuple #[(cmp n leaf i n path).v, .bool true])) := by
  refine enter Tryz.func96 Tryz.ntmps96 rfl rfl ?_
  have hE := Ext.refl w
  have hpb := dep_le_n n i n
  refine wp_seq ?_
  refine W_region ?_
  refine L (D_box (c := (leaf).l) (rfl) (fun aB1_0 w1_0 e1_0 gB1_0 hB1_0 => ?_))
  have lB1_0 := Nat.le_trans hE.size gB1_0
  replace hE := hE.trans e1_0
  refine L (D_alloc (c := (Nm.zero).l) Tryz.zeroValue29 rfl (fun aB1_1 w1_1 e1_1 gB1_1 hB1_1 => ?_))
  have lB1_1 := Nat.le_trans hE.size gB1_1
  have nB1_0B1_1 := hB1_0.ne gB1_1
  replace hE := hE.trans e1_1
  replace hB1_0 := hB1_0.ext e1_1
  refine L (D_v (R_assign rfl) ?_)
  refine S_nil ?_
  refine T_tn ?_
  refine wp_seq ?_
  refine wp_seq ?_
  refine W_region ?_
  refine L (D_v (R_move rfl) ?_)
  refine L (D_v (R_move rfl) ?_)
  refine L (D_call (R_callF Tryz.call122 rfl rfl) ((show Calls Tryz.prog 122 [i64 ((i : Nat) : Int), i64 ((n : Nat) : Int)].toArray w1_1 (Ret w1_1 (i64 D)) from by rw [hD]; exact c176 i n _ _ rfl (by omega) (by omega))) (fun w2_2 e2_2 => ?_))
  replace hE := hE.trans e2_2
  replace hB1_0 := hB1_0.ext e2_2
  replace hB1_1 := hB1_1.ext e2_2
  refine L (D_v (R_assign rfl) ?_)
  refine S_nil ?_
  refine T_tn ?_
  refine wp_seq ?_
  refine W_region ?_
  refine L (D_v (R_move rfl) ?_)
  refine L (D_v (R_lssI rfl rfl) ?_)
  refine L (D_v (R_move rfl) ?_)
  refine L (D_g1 rfl rfl (fun hb => R_move rfl) ?_)
  refine L (D_g1 rfl rfl (fun hb => R_len Tryz.underlying22 (cgE hb) (h.ext hE).1) ?_)
  refine L (D_g1 rfl rfl (fun hb => R_move rfl) ?_)
  refine L (D_g1 rfl rfl (fun hb => R_neqI (cgE hb) (cgE hb)) ?_)
  refine L (D_v (R_pickO rfl rfl rfl) ?_)
  refine S_nil ?_
  refine T_tn ?_
  refine W_if rfl (fun c1 => ?_) (fun c1 => ?_)
  ·
    subst hD
    exfalso; revert c1; rw [hp]; simp; try omega
  ·
    subst hD
    refine wp_skip ?_
    refine T_tn ?_
    refine wp_seq ?_
    refine W_region ?_
    refine L (D_v (R_loadA (c := (leaf).l) Tryz.isAgg29 Tryz.sizeOf29 hB1_0 rfl rfl rfl) ?_)
    refine L (D_v (R_move rfl) ?_)
    refine L (D_v (R_move rfl) ?_)
    refine L (D_v (R_move rfl) ?_)
    refine L (D_call (R_callF Tryz.call123 rfl rfl) (c182 (n) (leaf) (i) (n) v (path) _ (by omega) (by omega) (by omega) (by assumption) ((h.ext hE).lev fun _ _ _ => trivial)) (fun w4_4 e4_4 => ?_))
    replace hE := hE.trans e4_4
    replace hB1_0 := hB1_0.ext e4_4
    replace hB1_1 := hB1_1.ext e4_4
    have h0 := hB1_1
    refine L (D_storeA Tryz.sizeOf29 hB1_1 rfl rfl rfl rfl rfl (l' := ((cmp (n) leaf (i) (n) (path))).l) rfl (fun w4_5 k4_5 hB1_1 => ?_))
    replace hE := hE.kp k4_5 lB1_1
    replace hB1_0 := hB1_0.kp k4_5 nB1_0B1_1
    refine L (D_v (R_assign rfl) ?_)
    refine S_nil ?_
    refine T_tn ?_
    refine wp_ret ?_
    refine retct (c := ((cmp (n) leaf (i) (n) (path))).l) (v2 := .bool true) rfl rfl rfl Tryz.isAgg29 Tryz.sizeOf29 hB1_1 rfl rfl ⟨?_, hE⟩
    rfl
set_option maxRecDepth 4000 in
set_option maxHeartbeats 2000000 in
theorem c172s (leaf : Nm) (i n : Nat) (v : Value) (path : List Nm) (D : Int) (w : World) (hD : D = ((dep n i n : Nat) : Int)) (hi : i < n) (hb : n ≤ 1000000) (hp : path.length = dep n i n) (h : Ls cN w.heap.size w v path) : Calls Tryz.prog 75 [leaf.v, i64 ((i : Nat) : Int), i64 ((n : Nat) : Int), v].toArray w (Ret w (.tuple #[(cmp n leaf i n path).v, .bool true])) := by
  refine enter Tryz.func75 Tryz.ntmps75 rfl rfl ?_
  have hE := Ext.refl w
  have hpb := dep_le_n n i n
  refine wp_seq ?_
  refine W_region ?_
  refine L (D_box (c := (leaf).l) (rfl) (fun aB1_0 w1_0 e1_0 gB1_0 hB1_0 => ?_))
  have lB1_0 := Nat.le_trans hE.size gB1_0
  replace hE := hE.trans e1_0
  refine L (D_alloc (c := (Nm.zero).l) Tryz.zeroValue29 rfl (fun aB1_1 w1_1 e1_1 gB1_1 hB1_1 => ?_))
  have lB1_1 := Nat.le_trans hE.size gB1_1
  have nB1_0B1_1 := hB1_0.ne gB1_1
  replace hE := hE.trans e1_1
  replace hB1_0 := hB1_0.ext e1_1
  refine L (D_v (R_assign rfl) ?_)
  refine S_nil ?_
  refine T_tn ?_
  refine wp_seq ?_
  refine wp_seq ?_
  refine W_region ?_
  refine L (D_v (R_move rfl) ?_)
  refine L (D_v (R_move rfl) ?_)
  refine L (D_call (R_callF Tryz.call100 rfl rfl) ((show Calls Tryz.prog 100 [i64 ((i : Nat) : Int), i64 ((n : Nat) : Int)].toArray w1_1 (Ret w1_1 (i64 D)) from by rw [hD]; exact c184 i n _ _ rfl (by omega) (by omega))) (fun w2_2 e2_2 => ?_))
  replace hE := hE.trans e2_2
  replace hB1_0 := hB1_0.ext e2_2
  replace hB1_1 := hB1_1.ext e2_2
  refine L (D_v (R_assign rfl) ?_)
  refine S_nil ?_
  refine T_tn ?_
  refine wp_seq ?_
  refine W_region ?_
  refine L (D_v (R_move rfl) ?_)
  refine L (D_v (R_lssI rfl rfl) ?_)
  refine L (D_v (R_move rfl) ?_)
  refine L (D_g1 rfl rfl (fun hb => R_move rfl) ?_)
  refine L (D_g1 rfl rfl (fun hb => R_move rfl) ?_)
  refine L (D_g1 rfl rfl (fun hb => R_len Tryz.underlying22 (cgE hb) (h.ext hE).1) ?_)
  refine L (D_g1 rfl rfl (fun hb => R_neqI (cgE hb) (cgE hb)) ?_)
  refine L (D_v (R_pickO rfl rfl rfl) ?_)
  refine S_nil ?_
  refine T_tn ?_
  refine W_if rfl (fun c1 => ?_) (fun c1 => ?_)
  ·
    subst hD
    exfalso; revert c1; rw [hp]; simp; try omega
  ·
    subst hD
    refine wp_skip ?_
    refine T_tn ?_
    refine wp_seq ?_
    refine W_region ?_
    refine L (D_v (R_loadA (c := (leaf).l) Tryz.isAgg29 Tryz.sizeOf29 hB1_0 rfl rfl rfl) ?_)
    refine L (D_v (R_move rfl) ?_)
    refine L (D_v (R_move rfl) ?_)
    refine L (D_v (R_move rfl) ?_)
    refine L (D_call (R_callF Tryz.call101 rfl rfl) (c185 (n) (leaf) (i) (n) v (path) _ (by omega) (by omega) (by omega) (by assumption) ((h.ext hE).lev fun _ _ _ => trivial)) (fun w4_4 e4_4 => ?_))
    replace hE := hE.trans e4_4
    replace hB1_0 := hB1_0.ext e4_4
    replace hB1_1 := hB1_1.ext e4_4
    have h0 := hB1_1
    refine L (D_storeA Tryz.sizeOf29 hB1_1 rfl rfl rfl rfl rfl (l' := ((cmp (n) leaf (i) (n) (path))).l) rfl (fun w4_5 k4_5 hB1_1 => ?_))
    replace hE := hE.kp k4_5 lB1_1
    replace hB1_0 := hB1_0.kp k4_5 nB1_0B1_1
    refine L (D_v (R_assign rfl) ?_)
    refine S_nil ?_
    refine T_tn ?_
    refine wp_ret ?_
    refine retct (c := ((cmp (n) leaf (i) (n) (path))).l) (v2 := .bool true) rfl rfl rfl Tryz.isAgg29 Tryz.sizeOf29 hB1_1 rfl rfl ⟨?_, hE⟩
    rfl
end Go.Proofs.YteeopgpgbdhmhaaGreat
