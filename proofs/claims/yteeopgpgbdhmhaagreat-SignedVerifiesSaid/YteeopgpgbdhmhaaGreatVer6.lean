/- What the law needs, part 6. No condition. -/
import Derived.Maps.Keyed
import Derived.DeepKeys5
import Derived.Test.YteeopgpgbdhmhaaGreatVer5
namespace Go.Proofs.YteeopgpgbdhmhaaGreat
open Go.RowKit
set_option linter.unusedVariables false
set_option linter.unusedSimpArgs false
attribute [local irreducible] wpList wpO H wpQuiet wpStill Code.wp Exit.then Exit.inBlock bodyPost Code.rounds Calls valid sameKey lessV hless num between
set_option maxRecDepth 4000 in
set_option maxHeartbeats 2000000 in
theorem c117 (n : Nm) (w : World) : Calls Tryz.prog 53 [n.v].toArray w (RetE w fun r w' => ∃ g T, r = .pointer (some ⟨g, 0, none⟩) ∧ w.heap.size ≤ g ∧ Blk w' g (kyL n T nils) 125 ∧ Ow cN w.heap.size w.heap.size w' T (leavesN n 2 0)) := by
  refine enter Tryz.func53 Tryz.ntmps53 rfl rfl ?_
  have hE := Ext.refl w
  refine wp_seq ?_
  refine W_region ?_
  refine L (D_box (c := (n).l) (rfl) (fun aB1_0 w1_0 e1_0 gB1_0 hB1_0 => ?_))
  have lB1_0 := Nat.le_trans hE.size gB1_0
  replace hE := hE.trans e1_0
  refine L (D_v (R_assign rfl) ?_)
  refine S_nil ?_
  refine T_tn ?_
  refine wp_seq ?_
  refine W_held (fun W => Ext w W ∧ Blk W aB1_0 ((n).l) 29 ∧ True) mixed (fun w2_99 e2_99 => ?_)
  replace hE := hE.trans e2_99
  replace hB1_0 := hB1_0.ext e2_99
  refine H_take (i := 0) rfl (by kernel_rfl) (by kernel_rfl) (by kernel_rfl) rfl (pq_then pq_body) ⟨hE, hB1_0, trivial⟩ rfl (fun w hw => R_loadA (c := (n).l) Tryz.isAgg29 Tryz.sizeOf29 hw.2.1 rfl rfl rfl) ?_
  refine H_take (i := 1) rfl (by kernel_rfl) (by kernel_rfl) (by kernel_rfl) rfl (pq_then pq_body) ⟨hE, hB1_0, trivial⟩ rfl (fun w hw => R_loadA (c := (n).l) Tryz.isAgg29 Tryz.sizeOf29 hw.2.1 rfl rfl rfl) ?_
  refine H_op (i := 2) (by kernel_rfl) rfl rfl (D_callE (R_callF Tryz.call37 rfl rfl) (c120 (n) (2) (0) _) (fun v2_2 w2_2 e2_2 p2_2 => ?_))
  have o2_2 := p2_2
  have yv2_2_B1_0 : Value.ownBlock v2_2 ≠ some aB1_0 := fun hk => absurd (own_ge o2_2.1 hk) (Nat.not_le.2 hB1_0.lt)
  replace o2_2 := o2_2.low hE.size
  replace o2_2 := Ow.lev (lo' := w.heap.size) o2_2 (fun _ _ _ => trivial)
  replace hE := hE.trans e2_2
  replace hB1_0 := hB1_0.ext e2_2
  refine ⟨⟨hE, hB1_0, trivial⟩, ?_⟩
  have rcv2_2 := rs_cells o2_2.ls.1
  refine H_take (i := 3) rfl (by kernel_rfl) (by kernel_rfl) (by kernel_rfl) rfl (pq_then pq_body) ⟨hE, hB1_0, trivial⟩ rfl (fun w hw => R_buildS (vs := [(0, .agg (n).l.toArray), (1, v2_2)]) (c := (kyL n v2_2 nils)) Tryz.runUnderlying125 places159 Tryz.zeroValue125 (mapp2 rfl rfl) (fill159 _ rcv2_2)) ?_
  refine H_op (i := 4) (by kernel_rfl) rfl rfl (D_box (c := (kyL n v2_2 nils)) (rfl) (fun aB2_4 w2_4 e2_4 gB2_4 hB2_4 => ?_))
  have lB2_4 := Nat.le_trans hE.size gB2_4
  have nB1_0B2_4 := hB1_0.ne gB2_4
  replace hE := hE.trans e2_4
  replace hB1_0 := hB1_0.ext e2_4
  replace o2_2 := o2_2.ext e2_4
  refine ⟨⟨hE, hB1_0, trivial⟩, ?_⟩
  refine H_take (i := 5) rfl (by kernel_rfl) (by kernel_rfl) (by kernel_rfl) rfl (pq_then pq_body) ⟨hE, hB1_0, trivial⟩ rfl (fun w hw => R_assign rfl) ?_
  refine H_done (by kernel_rfl) ?_
  refine T_tn ?_
  refine wp_ret ?_
  refine ret1 (v := _) rfl rfl ⟨_, rfl, hE, ?_⟩
  exact ⟨aB2_4, v2_2, rfl, lB2_4, hB2_4, o2_2⟩
set_option maxRecDepth 4000 in
set_option maxHeartbeats 4000000 in
theorem c118 (n : Nm) (aK : Nat) (T : Value) (lT : Nat) (I : Int) (x : Nm) (w : World) (hTK : Blk w aK (kyL n T nils) 125) (hTT : Ow cN w.heap.size lT w T (leavesN n 2 0)) : Calls Tryz.prog 54 [.pointer (some ⟨aK, 0, none⟩), i64 I, x.v].toArray w (RetX (fun w' => Chg aK w w') (fun r w' => ∃ q, r = .tuple #[q, .bool (decide (0 ≤ I) && decide (I < 1024))] ∧ OwnB w' w.heap.size q (sigI n I x))) := by
  refine enter Tryz.func54 Tryz.ntmps54 rfl rfl ?_
  have hE := Chg.refl aK w
  refine wp_seq ?_
  refine W_region ?_
  refine L (D_box (c := (x).l) (rfl) (fun aB1_0 w1_0 e1_0 gB1_0 hB1_0 => ?_))
  have lB1_0 := Nat.le_trans hE.size gB1_0
  have nKB1_0 := hTK.ne gB1_0
  have yT_B1_0 : Value.ownBlock T ≠ some aB1_0 := fun hk => absurd (own_lt hTT.1 hk) (Nat.not_lt.2 gB1_0)
  replace hE := hE.trans e1_0
  replace hTK := hTK.ext e1_0
  replace hTT := hTT.ext e1_0
  refine L (D_v (R_assign rfl) ?_)
  refine L (D_v (R_assign rfl) ?_)
  refine S_nil ?_
  refine T_tn ?_
  refine wp_seq ?_
  refine wp_seq ?_
  refine W_region ?_
  refine L (D_v (R_move rfl) ?_)
  refine L (D_v (R_lssI rfl rfl) ?_)
  refine L (D_v (R_move rfl) ?_)
  refine L (D_g1 rfl rfl (fun hb => R_move rfl) ?_)
  refine L (D_g1 rfl rfl (fun hb => R_geqI (cgE hb) rfl) ?_)
  refine L (D_v (R_pickO rfl rfl rfl) ?_)
  refine S_nil ?_
  refine T_tn ?_
  refine W_if rfl (fun c1 => ?_) (fun c1 => ?_)
  ·
    have hout : (decide (0 ≤ I) && decide (I < 1024)) = false := rng_no c1
    refine wp_seq ?_
    refine W_region ?_
    refine L (D_v (R_assign rfl) ?_)
    refine L (D_v (R_assign rfl) ?_)
    refine S_nil ?_
    refine T_tn ?_
    refine wp_ret ?_
    refine T_tr ?_
    refine ret2 (v := .slice none 0 0) (v2 := .bool false) rfl rfl rfl ⟨_, rfl, hE, .slice none 0 0, ?_, ?_⟩
    · rw [hout]
    · rw [sig_no hout]; exact OwnB.nil _ _
  ·
    have hin := rng_yes c1
    obtain ⟨f, rfl⟩ : ∃ f : Nat, I = ((f : Nat) : Int) := ⟨I.toNat, (Int.toNat_of_nonneg hin.1).symm⟩
    have hf : f < 1024 := by omega
    have hm1 := mpath5 n 1 (f / 32) (j := f % 32) (by omega)
    have hm2 := mpath5 n 2 0 (j := f / 32) (by omega)
    refine wp_skip ?_
    refine T_tn ?_
    refine wp_seq ?_
    refine W_region ?_
    refine L (D_v (R_move rfl) ?_)
    refine L (D_v (R_quoN (m := f) (j := 32) rfl rfl (by decide) (by (try simp only [List.length_take, List.length_drop, List.length_append, List.length_cons, List.length_nil, List.length_replicate, List.length_set, Nm.b_len, be2_len]); omega)) ?_)
    refine L (D_v (R_assign rfl) ?_)
    refine S_nil ?_
    refine T_tn ?_
    refine wp_seq ?_
    refine wp_seq ?_
    refine W_region ?_
    refine L (D_v (R_move rfl) ?_)
    refine L (D_v (R_move rfl) ?_)
    refine L (D_v (R_nilCheck rfl) ?_)
    refine L (D_v (R_fieldAddr Tryz.runUnderlying125 rfl Tryz.sizeOf123 rfl) ?_)
    refine L (D_v (R_ixBot (t := (f / 32)) rfl rfl (by omega)) ?_)
    refine L (D_v (R_load Tryz.isAgg22 hTK rfl (ky_at (nils_at (t := (f / 32)) (by omega)))) ?_)
    refine L (D_v (R_len Tryz.underlying22 rfl (Ls.nil cN w.heap.size w1_0).1) ?_)
    refine L (D_v (R_eqlI rfl rfl) ?_)
    refine S_nil ?_
    refine T_tn ?_
    refine W_if rfl (fun c2 => ?_) (fun c2 => ?_)
    ·
      refine W_held (fun W => Chg aK w W ∧ Blk W aB1_0 ((x).l) 29 ∧ Ow cN w.heap.size lT W T (leavesN n 2 0) ∧ True) mixed (fun w5_99 e5_99 => ?_)
      replace hE := hE.trans e5_99
      replace hTK := hTK.ext e5_99
      replace hB1_0 := hB1_0.ext e5_99
      replace hTT := hTT.ext e5_99
      refine H_take (i := 0) rfl (by kernel_rfl) (by kernel_rfl) (by kernel_rfl) rfl (pq_then pq_body) ⟨hE, hB1_0, hTT, trivial⟩ rfl (fun w hw => R_move rfl) ?_
      refine H_take (i := 1) rfl (by kernel_rfl) (by kernel_rfl) (by kernel_rfl) rfl (pq_then pq_body) ⟨hE, hB1_0, hTT, trivial⟩ rfl (fun w hw => R_move rfl) ?_
      refine H_take (i := 2) rfl (by kernel_rfl) (by kernel_rfl) (by kernel_rfl) rfl (pq_then pq_body) ⟨hE, hB1_0, hTT, trivial⟩ rfl (fun w hw => R_move rfl) ?_
      refine H_take (i := 3) rfl (by kernel_rfl) (by kernel_rfl) (by kernel_rfl) rfl (pq_then pq_body) ⟨hE, hB1_0, hTT, trivial⟩ rfl (fun w hw => R_nilCheck rfl) ?_
      refine H_take (i := 4) rfl (by kernel_rfl) (by kernel_rfl) (by kernel_rfl) rfl (pq_then pq_body) ⟨hE, hB1_0, hTT, trivial⟩ rfl (fun w hw => R_fieldAddr Tryz.runUnderlying125 rfl Tryz.sizeOf29 rfl) ?_
      refine H_take (i := 6) rfl (by kernel_rfl) (by kernel_rfl) (by kernel_rfl) rfl (pq_then pq_body) ⟨hE, hB1_0, hTT, trivial⟩ rfl (fun w hw => R_move rfl) ?_
      refine H_take (i := 8) rfl (by kernel_rfl) (by kernel_rfl) (by kernel_rfl) rfl (pq_then pq_body) ⟨hE, hB1_0, hTT, trivial⟩ rfl (fun w hw => R_nilCheck rfl) ?_
      refine H_take (i := 9) rfl (by kernel_rfl) (by kernel_rfl) (by kernel_rfl) rfl (pq_then pq_body) ⟨hE, hB1_0, hTT, trivial⟩ rfl (fun w hw => R_fieldAddr Tryz.runUnderlying125 rfl Tryz.sizeOf123 rfl) ?_
      refine H_op (i := 5) (by kernel_rfl) rfl rfl (D_v (R_loadA (c := (n).l) Tryz.isAgg29 Tryz.sizeOf29 hTK rfl rfl (ky_ble _ _ _)) ⟨⟨hE, hB1_0, hTT, trivial⟩, ?_⟩)
      refine H_op (i := 7) (by kernel_rfl) rfl rfl (D_callE (R_callF Tryz.call37 rfl rfl) (c120 (n) (1) ((f / 32)) _) (fun v5_7 w5_7 e5_7 p5_7 => ?_))
      have o5_7 := p5_7
      have yv5_7_B1_0 : Value.ownBlock v5_7 ≠ some aB1_0 := fun hk => absurd (own_ge o5_7.1 hk) (Nat.not_le.2 hB1_0.lt)
      have zT_v5_7 := own_apart hTT.1 o5_7.1
      have zv5_7_T := fun k hk hk2 => zT_v5_7 k hk2 hk
      replace o5_7 := o5_7.low hE.size
      replace o5_7 := Ow.lev (lo' := w.heap.size) o5_7 (fun _ _ _ => trivial)
      replace hE := hE.trans e5_7
      replace hTK := hTK.ext e5_7
      replace hB1_0 := hB1_0.ext e5_7
      replace hTT := hTT.ext e5_7
      refine ⟨⟨hE, hB1_0, hTT, trivial⟩, ?_⟩
      refine H_take (i := 10) rfl (by kernel_rfl) (by kernel_rfl) (by kernel_rfl) rfl (pq_then pq_body) ⟨hE, hB1_0, hTT, trivial⟩ rfl (fun w hw => R_ixBot (t := (f / 32)) rfl rfl (by omega)) ?_
      have xhTT := own_neB hTT.1 hTK rfl
      have xo5_7 := own_neB o5_7.1 hTK rfl
      have h0 := hTK
      refine H_op (i := 11) (by kernel_rfl) rfl rfl (D_stBot (t := (f / 32)) (v := v5_7) hTK rfl rfl (rs_pl o5_7.ls.1) nils_len (by omega) (fun w5_11 k5_11 hK => ?_))
      replace hE := hE.kp k5_11 trivial
      replace hB1_0 := hB1_0.kp k5_11 nKB1_0.symm
      replace hTT := own_trivL (lo := w.heap.size) (own_kp hTT.1 k5_11 xhTT)
      replace o5_7 := own_trivL (lo := w.heap.size) (own_kp o5_7.1 k5_11 xo5_7)
      refine ⟨⟨hE, hB1_0, hTT, trivial⟩, ?_⟩
      refine H_done (by kernel_rfl) ?_
      refine T_tn ?_
      refine wp_seq ?_
      refine W_region ?_
      refine L (D_v (R_move rfl) ?_)
      refine L (D_v (R_move rfl) ?_)
      refine L (D_v (R_nilCheck rfl) ?_)
      refine L (D_v (R_fieldAddr Tryz.runUnderlying125 rfl Tryz.sizeOf123 rfl) ?_)
      refine L (D_v (R_ixBot (t := (f / 32)) rfl rfl (by omega)) ?_)
      refine L (D_v (R_load Tryz.isAgg22 hK rfl (ky_at (nset_at (t := (f / 32)) (by omega)))) ?_)
      refine L (D_v (R_move rfl) ?_)
      refine L (D_v (R_remN (m := f) (j := 32) rfl rfl (by decide) (by (try simp only [List.length_take, List.length_drop, List.length_append, List.length_cons, List.length_nil, List.length_replicate, List.length_set, Nm.b_len, be2_len]); omega)) ?_)
      refine L (D_callE (R_callF Tryz.call55 rfl rfl) (c119 32 v5_7 ((leavesN n (1) ((f / 32)))) ((f % 32)) _ (by rw [leavesN_len]; omega) (by rw [leavesN_len]; omega) (by rw [leavesN_len]; omega) (o5_7.ls.lev fun _ _ _ => trivial)) (fun v6_8 w6_8 e6_8 p6_8 => ?_))
      obtain ⟨q6_8, rfl, o6_8⟩ := p6_8
      have yq6_8_B1_0 : Value.ownBlock q6_8 ≠ some aB1_0 := fun hk => absurd (own_ge o6_8.1 hk) (Nat.not_le.2 hB1_0.lt)
      have zT_q6_8 := own_apart hTT.1 o6_8.1
      have zq6_8_T := fun k hk hk2 => zT_q6_8 k hk2 hk
      have zv5_7_q6_8 := own_apart o5_7.1 o6_8.1
      have zq6_8_v5_7 := fun k hk hk2 => zv5_7_q6_8 k hk2 hk
      replace o6_8 := o6_8.low hE.size
      replace o6_8 := Ow.lev (lo' := w.heap.size) o6_8 (fun _ _ _ => trivial)
      replace hE := hE.trans e6_8
      replace hK := hK.ext e6_8
      replace hB1_0 := hB1_0.ext e6_8
      replace hTT := hTT.ext e6_8
      replace o5_7 := o5_7.ext e6_8
      refine L (D_v (R_move rfl) ?_)
      refine L (D_v (R_extract rfl rfl) ?_)
      refine L (D_v (R_extract rfl rfl) ?_)
      refine L (D_v (R_assign rfl) ?_)
      refine L (D_v (R_assign rfl) ?_)
      refine S_nil ?_
      refine T_tn ?_
      refine wp_seq ?_
      refine W_region ?_
      refine L (D_v (R_move rfl) ?_)
      refine L (D_v (R_nilCheck rfl) ?_)
      refine L (D_v (R_fieldAddr Tryz.runUnderlying125 rfl Tryz.sizeOf22 rfl) ?_)
      refine L (D_v (R_load Tryz.isAgg22 hK rfl rfl) ?_)
      refine L (D_v (R_move rfl) ?_)
      refine L (D_callE (R_callF Tryz.call55 rfl rfl) (c119 32 T ((leavesN n 2 0)) ((f / 32)) _ (by rw [leavesN_len]; omega) (by rw [leavesN_len]; omega) (by rw [leavesN_len]; omega) (hTT.ls.lev fun _ _ _ => trivial)) (fun v7_5 w7_5 e7_5 p7_5 => ?_))
      obtain ⟨q7_5, rfl, o7_5⟩ := p7_5
      have yq7_5_B1_0 : Value.ownBlock q7_5 ≠ some aB1_0 := fun hk => absurd (own_ge o7_5.1 hk) (Nat.not_le.2 hB1_0.lt)
      have zT_q7_5 := own_apart hTT.1 o7_5.1
      have zq7_5_T := fun k hk hk2 => zT_q7_5 k hk2 hk
      have zv5_7_q7_5 := own_apart o5_7.1 o7_5.1
      have zq7_5_v5_7 := fun k hk hk2 => zv5_7_q7_5 k hk2 hk
      have zq6_8_q7_5 := own_apart o6_8.1 o7_5.1
      have zq7_5_q6_8 := fun k hk hk2 => zq6_8_q7_5 k hk2 hk
      replace o7_5 := o7_5.low hE.size
      replace o7_5 := Ow.lev (lo' := w.heap.size) o7_5 (fun _ _ _ => trivial)
      replace hE := hE.trans e7_5
      replace hK := hK.ext e7_5
      replace hB1_0 := hB1_0.ext e7_5
      replace hTT := hTT.ext e7_5
      replace o5_7 := o5_7.ext e7_5
      replace o6_8 := o6_8.ext e7_5
      refine L (D_v (R_move rfl) ?_)
      refine L (D_v (R_extract rfl rfl) ?_)
      refine L (D_v (R_extract rfl rfl) ?_)
      refine L (D_v (R_assign rfl) ?_)
      refine L (D_v (R_assign rfl) ?_)
      refine S_nil ?_
      refine T_tn ?_
      refine wp_seq ?_
      refine W_cut (R := fun g W => ∃ (v8_15 : Value) (v8_18 : Value), (g 0 = .pointer (some ⟨aK, 0, none⟩)) ∧ (g 8 = i64 (((f / 32) : Nat) : Int)) ∧ (g 11 = q7_5) ∧ (g 13 = v8_18) ∧ Chg aK w W ∧ Blk W aB1_0 ((x).l) 29 ∧ Blk W aK ((kyL n T (nils.set ((f / 32)) v5_7))) 125 ∧ Ow cN w.heap.size lT W T (leavesN n 2 0) ∧ Ow cN w.heap.size w.heap.size W q7_5 (mpath 32 ((leavesN n 2 0)) ((f / 32))) ∧ Ow cN w.heap.size w.heap.size W v5_7 (leavesN n (1) ((f / 32))) ∧ OwnB W w.heap.size v8_18 (([(by8 ((((f : Nat) : Int) / 2 ^ 8))), (by8 (((f : Nat) : Int)))] ++ ((oneSig (keyN n (1) ((f / 32)) ((f % 32))) x)).flatMap Nm.b) ++ ((mpath 32 ((leavesN n (1) ((f / 32)))) ((f % 32)))).flatMap Nm.b) ∧ ((∀ k, Value.ownBlock T = some k → Value.ownBlock v8_15 ≠ some k)) ∧ ((∀ k, Value.ownBlock q6_8 = some k → Value.ownBlock v8_15 ≠ some k)) ∧ ((∀ k, Value.ownBlock q7_5 = some k → Value.ownBlock v8_15 ≠ some k)) ∧ ((∀ k, Value.ownBlock v5_7 = some k → Value.ownBlock v8_15 ≠ some k)) ∧ Value.ownBlock v8_15 ≠ some aB1_0 ∧ ((∀ k, Value.ownBlock v8_15 = some k → Value.ownBlock T ≠ some k)) ∧ ((∀ k, Value.ownBlock v8_15 = some k → Value.ownBlock q6_8 ≠ some k)) ∧ ((∀ k, Value.ownBlock v8_15 = some k → Value.ownBlock q7_5 ≠ some k)) ∧ ((∀ k, Value.ownBlock v8_15 = some k → Value.ownBlock v5_7 ≠ some k))) ?_ ?_
      ·
        refine W_held (fun W => Chg aK w W ∧ Blk W aK ((kyL n T (nils.set ((f / 32)) v5_7))) 125 ∧ Blk W aB1_0 ((x).l) 29 ∧ Ow cN w.heap.size lT W T (leavesN n 2 0) ∧ Ow cN w.heap.size w.heap.size W v5_7 (leavesN n (1) ((f / 32))) ∧ Ow cN w.heap.size w.heap.size W q6_8 (mpath 32 ((leavesN n (1) ((f / 32)))) ((f % 32))) ∧ Ow cN w.heap.size w.heap.size W q7_5 (mpath 32 ((leavesN n 2 0)) ((f / 32))) ∧ True) mixed (fun w8_99 e8_99 => ?_)
        replace hE := hE.trans e8_99
        replace hK := hK.ext e8_99
        replace hB1_0 := hB1_0.ext e8_99
        replace hTT := hTT.ext e8_99
        replace o5_7 := o5_7.ext e8_99
        replace o6_8 := o6_8.ext e8_99
        replace o7_5 := o7_5.ext e8_99
        refine H_take (i := 0) rfl (by kernel_rfl) (by kernel_rfl) (by kernel_rfl) rfl pq_cut ⟨hE, hK, hB1_0, hTT, o5_7, o6_8, o7_5, trivial⟩ rfl (fun w hw => R_move rfl) ?_
        refine H_take (i := 1) rfl (by kernel_rfl) (by kernel_rfl) (by kernel_rfl) rfl pq_cut ⟨hE, hK, hB1_0, hTT, o5_7, o6_8, o7_5, trivial⟩ rfl (fun w hw => R_shrC (z := 8) rfl rfl (by decide) (by decide)) ?_
        refine H_take (i := 2) rfl (by kernel_rfl) (by kernel_rfl) (by kernel_rfl) rfl pq_cut ⟨hE, hK, hB1_0, hTT, o5_7, o6_8, o7_5, trivial⟩ rfl (fun w hw => R_convB Tryz.runUnderlying3 rfl) ?_
        refine H_take (i := 3) rfl (by kernel_rfl) (by kernel_rfl) (by kernel_rfl) rfl pq_cut ⟨hE, hK, hB1_0, hTT, o5_7, o6_8, o7_5, trivial⟩ rfl (fun w hw => R_move rfl) ?_
        refine H_take (i := 4) rfl (by kernel_rfl) (by kernel_rfl) (by kernel_rfl) rfl pq_cut ⟨hE, hK, hB1_0, hTT, o5_7, o6_8, o7_5, trivial⟩ rfl (fun w hw => R_convB Tryz.runUnderlying3 rfl) ?_
        refine H_take (i := 6) rfl (by kernel_rfl) (by kernel_rfl) (by kernel_rfl) rfl pq_cut ⟨hE, hK, hB1_0, hTT, o5_7, o6_8, o7_5, trivial⟩ rfl (fun w hw => R_move rfl) ?_
        refine H_take (i := 7) rfl (by kernel_rfl) (by kernel_rfl) (by kernel_rfl) rfl pq_cut ⟨hE, hK, hB1_0, hTT, o5_7, o6_8, o7_5, trivial⟩ rfl (fun w hw => R_nilCheck rfl) ?_
        refine H_take (i := 8) rfl (by kernel_rfl) (by kernel_rfl) (by kernel_rfl) rfl pq_cut ⟨hE, hK, hB1_0, hTT, o5_7, o6_8, o7_5, trivial⟩ rfl (fun w hw => R_fieldAddr Tryz.runUnderlying125 rfl Tryz.sizeOf29 rfl) ?_
        refine H_take (i := 9) rfl (by kernel_rfl) (by kernel_rfl) (by kernel_rfl) rfl pq_cut ⟨hE, hK, hB1_0, hTT, o5_7, o6_8, o7_5, trivial⟩ rfl (fun w hw => R_loadA (c := (n).l) Tryz.isAgg29 Tryz.sizeOf29 hw.2.1 rfl rfl (ky_ble _ _ _)) ?_
        refine H_take (i := 10) rfl (by kernel_rfl) (by kernel_rfl) (by kernel_rfl) rfl pq_cut ⟨hE, hK, hB1_0, hTT, o5_7, o6_8, o7_5, trivial⟩ rfl (fun w hw => R_move rfl) ?_
        refine H_take (i := 11) rfl (by kernel_rfl) (by kernel_rfl) (by kernel_rfl) rfl pq_cut ⟨hE, hK, hB1_0, hTT, o5_7, o6_8, o7_5, trivial⟩ rfl (fun w hw => R_move rfl) ?_
        refine H_take (i := 12) rfl (by kernel_rfl) (by kernel_rfl) (by kernel_rfl) rfl pq_cut ⟨hE, hK, hB1_0, hTT, o5_7, o6_8, o7_5, trivial⟩ rfl (fun w hw => R_remN (m := f) (j := 32) rfl rfl (by decide) (by (try simp only [List.length_take, List.length_drop, List.length_append, List.length_cons, List.length_nil, List.length_replicate, List.length_set, Nm.b_len, be2_len]); omega)) ?_
        refine H_take (i := 14) rfl (by kernel_rfl) (by kernel_rfl) (by kernel_rfl) rfl pq_cut ⟨hE, hK, hB1_0, hTT, o5_7, o6_8, o7_5, trivial⟩ rfl (fun w hw => R_loadA (c := (x).l) Tryz.isAgg29 Tryz.sizeOf29 hw.2.2.1 rfl rfl rfl) ?_
        refine H_take (i := 17) rfl (by kernel_rfl) (by kernel_rfl) (by kernel_rfl) rfl pq_cut ⟨hE, hK, hB1_0, hTT, o5_7, o6_8, o7_5, trivial⟩ rfl (fun w hw => R_move rfl) ?_
        refine H_op2 (i := 5) (i2 := 13) (by kernel_rfl) rfl rfl rfl rfl ?_ ?_
        ·
          refine D_buildB (vs := [(0, u8 (by8 ((((f : Nat) : Int) / 2 ^ 8)))), (1, u8 (by8 (((f : Nat) : Int))))]) (b := [(by8 ((((f : Nat) : Int) / 2 ^ 8))), (by8 (((f : Nat) : Int)))]) Tryz.underlying32 Tryz.sizeOf5 Tryz.zeroValue5 rfl (fillB2 _ _) rfl rfl rfl (fun v8_5 w8_5 o8_5 e8_5 => ?_)
          replace o8_5 := o8_5.lo hE.size
          replace hE := hE.trans e8_5
          replace hK := hK.ext e8_5
          replace hB1_0 := hB1_0.ext e8_5
          replace hTT := hTT.ext e8_5
          replace o5_7 := o5_7.ext e8_5
          replace o6_8 := o6_8.ext e8_5
          replace o7_5 := o7_5.ext e8_5
          refine ⟨⟨hE, hK, hB1_0, hTT, o5_7, o6_8, o7_5, trivial⟩, ?_⟩
          refine H_op (i := 13) (by kernel_rfl) rfl rfl (D_call (R_callF Tryz.call58 rfl rfl) (c123 (n) (1) ((f / 32)) ((f % 32)) _) (fun w8_13 e8_13 => ?_))
          replace hE := hE.trans e8_13
          replace hK := hK.ext e8_13
          replace hB1_0 := hB1_0.ext e8_13
          replace hTT := hTT.ext e8_13
          replace o5_7 := o5_7.ext e8_13
          replace o6_8 := o6_8.ext e8_13
          replace o7_5 := o7_5.ext e8_13
          replace o8_5 := o8_5.ext e8_13
          refine ⟨⟨hE, hK, hB1_0, hTT, o5_7, o6_8, o7_5, trivial⟩, ?_⟩
          refine H_op (i := 15) (by kernel_rfl) rfl rfl (D_callE (R_callF Tryz.call57 rfl rfl) (c122 ((keyN n (1) ((f / 32)) ((f % 32)))) (x) _) (fun v8_15 w8_15 e8_15 p8_15 => ?_))
          have o8_15 := p8_15
          have yv8_15_B1_0 : Value.ownBlock v8_15 ≠ some aB1_0 := fun hk => absurd (own_ge o8_15.1 hk) (Nat.not_le.2 hB1_0.lt)
          have zT_v8_15 := own_apart hTT.1 o8_15.1
          have zv8_15_T := fun k hk hk2 => zT_v8_15 k hk2 hk
          have zv5_7_v8_15 := own_apart o5_7.1 o8_15.1
          have zv8_15_v5_7 := fun k hk hk2 => zv5_7_v8_15 k hk2 hk
          have zq6_8_v8_15 := own_apart o6_8.1 o8_15.1
          have zv8_15_q6_8 := fun k hk hk2 => zq6_8_v8_15 k hk2 hk
          have zq7_5_v8_15 := own_apart o7_5.1 o8_15.1
          have zv8_15_q7_5 := fun k hk hk2 => zq7_5_v8_15 k hk2 hk
          replace o8_15 := o8_15.low hE.size
          replace o8_15 := Ow.lev (lo' := w.heap.size) o8_15 (fun _ _ _ => trivial)
          replace hE := hE.trans e8_15
          replace hK := hK.ext e8_15
          replace hB1_0 := hB1_0.ext e8_15
          replace hTT := hTT.ext e8_15
          replace o5_7 := o5_7.ext e8_15
          replace o6_8 := o6_8.ext e8_15
          replace o7_5 := o7_5.ext e8_15
          replace o8_5 := o8_5.ext e8_15
          refine ⟨⟨hE, hK, hB1_0, hTT, o5_7, o6_8, o7_5, trivial⟩, ?_⟩
          refine H_op (i := 16) (by kernel_rfl) rfl rfl (D_callX (R_callF Tryz.call56 rfl rfl) (c121 w.heap.size _ v8_5 v8_15 [(by8 ((((f : Nat) : Int) / 2 ^ 8))), (by8 (((f : Nat) : Int)))] (oneSig (keyN n (1) ((f / 32)) ((f % 32))) x) _ hE.size (by simp only [List.length_append, flat_len, oneSig_len, hm1, hm2, List.length_cons, List.length_nil]; omega) (by simp only [oneSig_len, hm1, hm2]; omega) o8_5 (Ow.lev (lo' := _) o8_15 (fun _ _ _ => trivial))) (fun v8_16 w8_16 p8_16 => ?_))
          obtain ⟨g8_16, o8_16, sp8_16⟩ := p8_16
          replace hE := hE.grown g8_16 (fun k hk => own_ge o8_5 hk)
          replace hK := hK.grown g8_16 (own_neB o8_5 hK rfl)
          replace hB1_0 := hB1_0.grown g8_16 (own_neB o8_5 hB1_0 rfl)
          replace hTT := own_trivL (lo := w.heap.size) (own_grown hTT.1 g8_16 (own_ne hTT.1 o8_5 rfl))
          replace o5_7 := own_trivL (lo := w.heap.size) (own_grown o5_7.1 g8_16 (own_ne o5_7.1 o8_5 rfl))
          replace o6_8 := own_trivL (lo := w.heap.size) (own_grown o6_8.1 g8_16 (own_ne o6_8.1 o8_5 rfl))
          replace o7_5 := own_trivL (lo := w.heap.size) (own_grown o7_5.1 g8_16 (own_ne o7_5.1 o8_5 rfl))
          replace o8_15 := own_trivL (lo := w.heap.size) (own_grown o8_15.1 g8_16 (own_ne o8_15.1 o8_5 rfl))
          refine ⟨⟨hE, hK, hB1_0, hTT, o5_7, o6_8, o7_5, trivial⟩, ?_⟩
          refine H_op (i := 18) (by kernel_rfl) rfl rfl (D_callX (R_callF Tryz.call56 rfl rfl) (c121 w.heap.size _ v8_16 q6_8 ([(by8 ((((f : Nat) : Int) / 2 ^ 8))), (by8 (((f : Nat) : Int)))] ++ ((oneSig (keyN n (1) ((f / 32)) ((f % 32))) x)).flatMap Nm.b) (mpath 32 ((leavesN n (1) ((f / 32)))) ((f % 32))) _ hE.size (by simp only [List.length_append, flat_len, oneSig_len, hm1, hm2, List.length_cons, List.length_nil]; omega) (by simp only [oneSig_len, hm1, hm2]; omega) o8_16 (Ow.lev (lo' := _) o6_8 (fun _ _ _ => trivial))) (fun v8_18 w8_18 p8_18 => ?_))
          obtain ⟨g8_18, o8_18, sp8_18⟩ := p8_18
          replace hE := hE.grown g8_18 (fun k hk => own_ge o8_16 hk)
          replace hK := hK.grown g8_18 (own_neB o8_16 hK rfl)
          replace hB1_0 := hB1_0.grown g8_18 (own_neB o8_16 hB1_0 rfl)
          replace hTT := own_trivL (lo := w.heap.size) (own_grown hTT.1 g8_18 (own_ne hTT.1 o8_16 rfl))
          replace o5_7 := own_trivL (lo := w.heap.size) (own_grown o5_7.1 g8_18 (own_ne o5_7.1 o8_16 rfl))
          replace o6_8 := own_trivL (lo := w.heap.size) (own_grown o6_8.1 g8_18 (own_ne o6_8.1 o8_16 rfl))
          replace o7_5 := own_trivL (lo := w.heap.size) (own_grown o7_5.1 g8_18 (own_ne o7_5.1 o8_16 rfl))
          replace o8_15 := own_trivL (lo := w.heap.size) (own_grown o8_15.1 g8_18 (own_ne o8_15.1 o8_16 rfl))
          refine ⟨⟨hE, hK, hB1_0, hTT, o5_7, o6_8, o7_5, trivial⟩, ?_⟩
          refine H_take (i := 19) rfl (by kernel_rfl) (by kernel_rfl) (by kernel_rfl) rfl pq_cut ⟨hE, hK, hB1_0, hTT, o5_7, o6_8, o7_5, trivial⟩ rfl (fun w hw => R_assign rfl) ?_
          refine H_done (by kernel_rfl) ?_
          exact ⟨rfl, _, rfl, _, _, rfl, rfl, rfl, rfl, hE, hB1_0, hK, hTT, o7_5, o5_7, o8_18, zT_v8_15, zq6_8_v8_15, zq7_5_v8_15, zv5_7_v8_15, yv8_15_B1_0, zv8_15_T, zv8_15_q6_8, zv8_15_q7_5, zv8_15_v5_7⟩
        ·
          refine D_call (R_callF Tryz.call58 rfl rfl) (c123 (n) (1) ((f / 32)) ((f % 32)) _) (fun w8_13 e8_13 => ?_)
          replace hE := hE.trans e8_13
          replace hK := hK.ext e8_13
          replace hB1_0 := hB1_0.ext e8_13
          replace hTT := hTT.ext e8_13
          replace o5_7 := o5_7.ext e8_13
          replace o6_8 := o6_8.ext e8_13
          replace o7_5 := o7_5.ext e8_13
          refine ⟨⟨hE, hK, hB1_0, hTT, o5_7, o6_8, o7_5, trivial⟩, ?_⟩
          refine H_op2 (i := 5) (i2 := 15) (by kernel_rfl) rfl rfl rfl rfl ?_ ?_
          ·
            refine D_buildB (vs := [(0, u8 (by8 ((((f : Nat) : Int) / 2 ^ 8)))), (1, u8 (by8 (((f : Nat) : Int))))]) (b := [(by8 ((((f : Nat) : Int) / 2 ^ 8))), (by8 (((f : Nat) : Int)))]) Tryz.underlying32 Tryz.sizeOf5 Tryz.zeroValue5 rfl (fillB2 _ _) rfl rfl rfl (fun v8_5 w8_5 o8_5 e8_5 => ?_)
            replace o8_5 := o8_5.lo hE.size
            replace hE := hE.trans e8_5
            replace hK := hK.ext e8_5
            replace hB1_0 := hB1_0.ext e8_5
            replace hTT := hTT.ext e8_5
            replace o5_7 := o5_7.ext e8_5
            replace o6_8 := o6_8.ext e8_5
            replace o7_5 := o7_5.ext e8_5
            refine ⟨⟨hE, hK, hB1_0, hTT, o5_7, o6_8, o7_5, trivial⟩, ?_⟩
            refine H_op (i := 15) (by kernel_rfl) rfl rfl (D_callE (R_callF Tryz.call57 rfl rfl) (c122 ((keyN n (1) ((f / 32)) ((f % 32)))) (x) _) (fun v8_15 w8_15 e8_15 p8_15 => ?_))
            have o8_15 := p8_15
            have yv8_15_B1_0 : Value.ownBlock v8_15 ≠ some aB1_0 := fun hk => absurd (own_ge o8_15.1 hk) (Nat.not_le.2 hB1_0.lt)
            have zT_v8_15 := own_apart hTT.1 o8_15.1
            have zv8_15_T := fun k hk hk2 => zT_v8_15 k hk2 hk
            have zv5_7_v8_15 := own_apart o5_7.1 o8_15.1
            have zv8_15_v5_7 := fun k hk hk2 => zv5_7_v8_15 k hk2 hk
            have zq6_8_v8_15 := own_apart o6_8.1 o8_15.1
            have zv8_15_q6_8 := fun k hk hk2 => zq6_8_v8_15 k hk2 hk
            have zq7_5_v8_15 := own_apart o7_5.1 o8_15.1
            have zv8_15_q7_5 := fun k hk hk2 => zq7_5_v8_15 k hk2 hk
            replace o8_15 := o8_15.low hE.size
            replace o8_15 := Ow.lev (lo' := w.heap.size) o8_15 (fun _ _ _ => trivial)
            replace hE := hE.trans e8_15
            replace hK := hK.ext e8_15
            replace hB1_0 := hB1_0.ext e8_15
            replace hTT := hTT.ext e8_15
            replace o5_7 := o5_7.ext e8_15
            replace o6_8 := o6_8.ext e8_15
            replace o7_5 := o7_5.ext e8_15
            replace o8_5 := o8_5.ext e8_15
            refine ⟨⟨hE, hK, hB1_0, hTT, o5_7, o6_8, o7_5, trivial⟩, ?_⟩
            refine H_op (i := 16) (by kernel_rfl) rfl rfl (D_callX (R_callF Tryz.call56 rfl rfl) (c121 w.heap.size _ v8_5 v8_15 [(by8 ((((f : Nat) : Int) / 2 ^ 8))), (by8 (((f : Nat) : Int)))] (oneSig (keyN n (1) ((f / 32)) ((f % 32))) x) _ hE.size (by simp only [List.length_append, flat_len, oneSig_len, hm1, hm2, List.length_cons, List.length_nil]; omega) (by simp only [oneSig_len, hm1, hm2]; omega) o8_5 (Ow.lev (lo' := _) o8_15 (fun _ _ _ => trivial))) (fun v8_16 w8_16 p8_16 => ?_))
            obtain ⟨g8_16, o8_16, sp8_16⟩ := p8_16
            replace hE := hE.grown g8_16 (fun k hk => own_ge o8_5 hk)
            replace hK := hK.grown g8_16 (own_neB o8_5 hK rfl)
            replace hB1_0 := hB1_0.grown g8_16 (own_neB o8_5 hB1_0 rfl)
            replace hTT := own_trivL (lo := w.heap.size) (own_grown hTT.1 g8_16 (own_ne hTT.1 o8_5 rfl))
            replace o5_7 := own_trivL (lo := w.heap.size) (own_grown o5_7.1 g8_16 (own_ne o5_7.1 o8_5 rfl))
            replace o6_8 := own_trivL (lo := w.heap.size) (own_grown o6_8.1 g8_16 (own_ne o6_8.1 o8_5 rfl))
            replace o7_5 := own_trivL (lo := w.heap.size) (own_grown o7_5.1 g8_16 (own_ne o7_5.1 o8_5 rfl))
            replace o8_15 := own_trivL (lo := w.heap.size) (own_grown o8_15.1 g8_16 (own_ne o8_15.1 o8_5 rfl))
            refine ⟨⟨hE, hK, hB1_0, hTT, o5_7, o6_8, o7_5, trivial⟩, ?_⟩
            refine H_op (i := 18) (by kernel_rfl) rfl rfl (D_callX (R_callF Tryz.call56 rfl rfl) (c121 w.heap.size _ v8_16 q6_8 ([(by8 ((((f : Nat) : Int) / 2 ^ 8))), (by8 (((f : Nat) : Int)))] ++ ((oneSig (keyN n (1) ((f / 32)) ((f % 32))) x)).flatMap Nm.b) (mpath 32 ((leavesN n (1) ((f / 32)))) ((f % 32))) _ hE.size (by simp only [List.length_append, flat_len, oneSig_len, hm1, hm2, List.length_cons, List.length_nil]; omega) (by simp only [oneSig_len, hm1, hm2]; omega) o8_16 (Ow.lev (lo' := _) o6_8 (fun _ _ _ => trivial))) (fun v8_18 w8_18 p8_18 => ?_))
            obtain ⟨g8_18, o8_18, sp8_18⟩ := p8_18
            replace hE := hE.grown g8_18 (fun k hk => own_ge o8_16 hk)
            replace hK := hK.grown g8_18 (own_neB o8_16 hK rfl)
            replace hB1_0 := hB1_0.grown g8_18 (own_neB o8_16 hB1_0 rfl)
            replace hTT := own_trivL (lo := w.heap.size) (own_grown hTT.1 g8_18 (own_ne hTT.1 o8_16 rfl))
            replace o5_7 := own_trivL (lo := w.heap.size) (own_grown o5_7.1 g8_18 (own_ne o5_7.1 o8_16 rfl))
            replace o6_8 := own_trivL (lo := w.heap.size) (own_grown o6_8.1 g8_18 (own_ne o6_8.1 o8_16 rfl))
            replace o7_5 := own_trivL (lo := w.heap.size) (own_grown o7_5.1 g8_18 (own_ne o7_5.1 o8_16 rfl))
            replace o8_15 := own_trivL (lo := w.heap.size) (own_grown o8_15.1 g8_18 (own_ne o8_15.1 o8_16 rfl))
            refine ⟨⟨hE, hK, hB1_0, hTT, o5_7, o6_8, o7_5, trivial⟩, ?_⟩
            refine H_take (i := 19) rfl (by kernel_rfl) (by kernel_rfl) (by kernel_rfl) rfl pq_cut ⟨hE, hK, hB1_0, hTT, o5_7, o6_8, o7_5, trivial⟩ rfl (fun w hw => R_assign rfl) ?_
            refine H_done (by kernel_rfl) ?_
            exact ⟨rfl, _, rfl, _, _, rfl, rfl, rfl, rfl, hE, hB1_0, hK, hTT, o7_5, o5_7, o8_18, zT_v8_15, zq6_8_v8_15, zq7_5_v8_15, zv5_7_v8_15, yv8_15_B1_0, zv8_15_T, zv8_15_q6_8, zv8_15_q7_5, zv8_15_v5_7⟩
          ·
            refine D_callE (R_callF Tryz.call57 rfl rfl) (c122 ((keyN n (1) ((f / 32)) ((f % 32)))) (x) _) (fun v8_15 w8_15 e8_15 p8_15 => ?_)
            have o8_15 := p8_15
            have yv8_15_B1_0 : Value.ownBlock v8_15 ≠ some aB1_0 := fun hk => absurd (own_ge o8_15.1 hk) (Nat.not_le.2 hB1_0.lt)
            have zT_v8_15 := own_apart hTT.1 o8_15.1
            have zv8_15_T := fun k hk hk2 => zT_v8_15 k hk2 hk
            have zv5_7_v8_15 := own_apart o5_7.1 o8_15.1
            have zv8_15_v5_7 := fun k hk hk2 => zv5_7_v8_15 k hk2 hk
            have zq6_8_v8_15 := own_apart o6_8.1 o8_15.1
            have zv8_15_q6_8 := fun k hk hk2 => zq6_8_v8_15 k hk2 hk
            have zq7_5_v8_15 := own_apart o7_5.1 o8_15.1
            have zv8_15_q7_5 := fun k hk hk2 => zq7_5_v8_15 k hk2 hk
            replace o8_15 := o8_15.low hE.size
            replace o8_15 := Ow.lev (lo' := w.heap.size) o8_15 (fun _ _ _ => trivial)
            replace hE := hE.trans e8_15
            replace hK := hK.ext e8_15
            replace hB1_0 := hB1_0.ext e8_15
            replace hTT := hTT.ext e8_15
            replace o5_7 := o5_7.ext e8_15
            replace o6_8 := o6_8.ext e8_15
            replace o7_5 := o7_5.ext e8_15
            refine ⟨⟨hE, hK, hB1_0, hTT, o5_7, o6_8, o7_5, trivial⟩, ?_⟩
            refine H_op (i := 5) (by kernel_rfl) rfl rfl (D_buildB (vs := [(0, u8 (by8 ((((f : Nat) : Int) / 2 ^ 8)))), (1, u8 (by8 (((f : Nat) : Int))))]) (b := [(by8 ((((f : Nat) : Int) / 2 ^ 8))), (by8 (((f : Nat) : Int)))]) Tryz.underlying32 Tryz.sizeOf5 Tryz.zeroValue5 rfl (fillB2 _ _) rfl rfl rfl (fun v8_5 w8_5 o8_5 e8_5 => ?_))
            replace o8_5 := o8_5.lo hE.size
            replace hE := hE.trans e8_5
            replace hK := hK.ext e8_5
            replace hB1_0 := hB1_0.ext e8_5
            replace hTT := hTT.ext e8_5
            replace o5_7 := o5_7.ext e8_5
            replace o6_8 := o6_8.ext e8_5
            replace o7_5 := o7_5.ext e8_5
            replace o8_15 := o8_15.ext e8_5
            refine ⟨⟨hE, hK, hB1_0, hTT, o5_7, o6_8, o7_5, trivial⟩, ?_⟩
            refine H_op (i := 16) (by kernel_rfl) rfl rfl (D_callX (R_callF Tryz.call56 rfl rfl) (c121 w.heap.size _ v8_5 v8_15 [(by8 ((((f : Nat) : Int) / 2 ^ 8))), (by8 (((f : Nat) : Int)))] (oneSig (keyN n (1) ((f / 32)) ((f % 32))) x) _ hE.size (by simp only [List.length_append, flat_len, oneSig_len, hm1, hm2, List.length_cons, List.length_nil]; omega) (by simp only [oneSig_len, hm1, hm2]; omega) o8_5 (Ow.lev (lo' := _) o8_15 (fun _ _ _ => trivial))) (fun v8_16 w8_16 p8_16 => ?_))
            obtain ⟨g8_16, o8_16, sp8_16⟩ := p8_16
            replace hE := hE.grown g8_16 (fun k hk => own_ge o8_5 hk)
            replace hK := hK.grown g8_16 (own_neB o8_5 hK rfl)
            replace hB1_0 := hB1_0.grown g8_16 (own_neB o8_5 hB1_0 rfl)
            replace hTT := own_trivL (lo := w.heap.size) (own_grown hTT.1 g8_16 (own_ne hTT.1 o8_5 rfl))
            replace o5_7 := own_trivL (lo := w.heap.size) (own_grown o5_7.1 g8_16 (own_ne o5_7.1 o8_5 rfl))
            replace o6_8 := own_trivL (lo := w.heap.size) (own_grown o6_8.1 g8_16 (own_ne o6_8.1 o8_5 rfl))
            replace o7_5 := own_trivL (lo := w.heap.size) (own_grown o7_5.1 g8_16 (own_ne o7_5.1 o8_5 rfl))
            replace o8_15 := own_trivL (lo := w.heap.size) (own_grown o8_15.1 g8_16 (own_ne o8_15.1 o8_5 rfl))
            refine ⟨⟨hE, hK, hB1_0, hTT, o5_7, o6_8, o7_5, trivial⟩, ?_⟩
            refine H_op (i := 18) (by kernel_rfl) rfl rfl (D_callX (R_callF Tryz.call56 rfl rfl) (c121 w.heap.size _ v8_16 q6_8 ([(by8 ((((f : Nat) : Int) / 2 ^ 8))), (by8 (((f : Nat) : Int)))] ++ ((oneSig (keyN n (1) ((f / 32)) ((f % 32))) x)).flatMap Nm.b) (mpath 32 ((leavesN n (1) ((f / 32)))) ((f % 32))) _ hE.size (by simp only [List.length_append, flat_len, oneSig_len, hm1, hm2, List.length_cons, List.length_nil]; omega) (by simp only [oneSig_len, hm1, hm2]; omega) o8_16 (Ow.lev (lo' := _) o6_8 (fun _ _ _ => trivial))) (fun v8_18 w8_18 p8_18 => ?_))
            obtain ⟨g8_18, o8_18, sp8_18⟩ := p8_18
            replace hE := hE.grown g8_18 (fun k hk => own_ge o8_16 hk)
            replace hK := hK.grown g8_18 (own_neB o8_16 hK rfl)
            replace hB1_0 := hB1_0.grown g8_18 (own_neB o8_16 hB1_0 rfl)
            replace hTT := own_trivL (lo := w.heap.size) (own_grown hTT.1 g8_18 (own_ne hTT.1 o8_16 rfl))
            replace o5_7 := own_trivL (lo := w.heap.size) (own_grown o5_7.1 g8_18 (own_ne o5_7.1 o8_16 rfl))
            replace o6_8 := own_trivL (lo := w.heap.size) (own_grown o6_8.1 g8_18 (own_ne o6_8.1 o8_16 rfl))
            replace o7_5 := own_trivL (lo := w.heap.size) (own_grown o7_5.1 g8_18 (own_ne o7_5.1 o8_16 rfl))
            replace o8_15 := own_trivL (lo := w.heap.size) (own_grown o8_15.1 g8_18 (own_ne o8_15.1 o8_16 rfl))
            refine ⟨⟨hE, hK, hB1_0, hTT, o5_7, o6_8, o7_5, trivial⟩, ?_⟩
            refine H_take (i := 19) rfl (by kernel_rfl) (by kernel_rfl) (by kernel_rfl) rfl pq_cut ⟨hE, hK, hB1_0, hTT, o5_7, o6_8, o7_5, trivial⟩ rfl (fun w hw => R_assign rfl) ?_
            refine H_done (by kernel_rfl) ?_
            exact ⟨rfl, _, rfl, _, _, rfl, rfl, rfl, rfl, hE, hB1_0, hK, hTT, o7_5, o5_7, o8_18, zT_v8_15, zq6_8_v8_15, zq7_5_v8_15, zv5_7_v8_15, yv8_15_B1_0, zv8_15_T, zv8_15_q6_8, zv8_15_q7_5, zv8_15_v5_7⟩
      rintro f8 w8c ⟨v8_15, v8_18, q0, q8, q11, q13, hE, hB1_0, hK, oT, o7_5, o5_7, o8_18, zT_v8_15, zq6_8_v8_15, zq7_5_v8_15, zv5_7_v8_15, yv8_15_B1_0, zv8_15_T, zv8_15_q6_8, zv8_15_q7_5, zv8_15_v5_7⟩
      refine T_tn ?_
      refine wp_seq ?_
      refine W_cut (R := fun g W => ∃ (v9_17 : Value), (g 6 = v9_17) ∧ (g 7 = .bool true) ∧ Chg aK w W ∧ Blk W aK ((kyL n T (nils.set ((f / 32)) v5_7))) 125 ∧ Ow cN w.heap.size lT W T (leavesN n 2 0) ∧ Ow cN w.heap.size w.heap.size W v5_7 (leavesN n (1) ((f / 32))) ∧ OwnB W w.heap.size v9_17 (((([(by8 ((((f : Nat) : Int) / 2 ^ 8))), (by8 (((f : Nat) : Int)))] ++ ((oneSig (keyN n (1) ((f / 32)) ((f % 32))) x)).flatMap Nm.b) ++ ((mpath 32 ((leavesN n (1) ((f / 32)))) ((f % 32)))).flatMap Nm.b) ++ ((oneSig (keyN n (2) (0) ((f / 32))) (mroot 32 ((leavesN n (1) ((f / 32))))))).flatMap Nm.b) ++ ((mpath 32 ((leavesN n 2 0)) ((f / 32)))).flatMap Nm.b)) ?_ ?_
      ·
        refine W_held (fun W => Chg aK w W ∧ Blk W aK ((kyL n T (nils.set ((f / 32)) v5_7))) 125 ∧ Ow cN w.heap.size lT W T (leavesN n 2 0) ∧ Ow cN w.heap.size w.heap.size W q7_5 (mpath 32 ((leavesN n 2 0)) ((f / 32))) ∧ Ow cN w.heap.size w.heap.size W v5_7 (leavesN n (1) ((f / 32))) ∧ True) mixed (fun w9_99 e9_99 => ?_)
        replace hE := hE.trans e9_99
        replace hK := hK.ext e9_99
        replace oT := oT.ext e9_99
        replace o7_5 := o7_5.ext e9_99
        replace o5_7 := o5_7.ext e9_99
        replace o8_18 := o8_18.ext e9_99
        refine H_take (i := 0) rfl (by kernel_rfl) (by kernel_rfl) (by kernel_rfl) rfl pq_cut ⟨hE, hK, oT, o7_5, o5_7, trivial⟩ rfl (fun w hw => R_move q13) ?_
        refine H_take (i := 1) rfl (by kernel_rfl) (by kernel_rfl) (by kernel_rfl) rfl pq_cut ⟨hE, hK, oT, o7_5, o5_7, trivial⟩ rfl (fun w hw => R_move q0) ?_
        refine H_take (i := 2) rfl (by kernel_rfl) (by kernel_rfl) (by kernel_rfl) rfl pq_cut ⟨hE, hK, oT, o7_5, o5_7, trivial⟩ rfl (fun w hw => R_nilCheck rfl) ?_
        refine H_take (i := 3) rfl (by kernel_rfl) (by kernel_rfl) (by kernel_rfl) rfl pq_cut ⟨hE, hK, oT, o7_5, o5_7, trivial⟩ rfl (fun w hw => R_fieldAddr Tryz.runUnderlying125 rfl Tryz.sizeOf29 rfl) ?_
        refine H_take (i := 4) rfl (by kernel_rfl) (by kernel_rfl) (by kernel_rfl) rfl pq_cut ⟨hE, hK, oT, o7_5, o5_7, trivial⟩ rfl (fun w hw => R_loadA (c := (n).l) Tryz.isAgg29 Tryz.sizeOf29 hw.2.1 rfl rfl (ky_ble _ _ _)) ?_
        refine H_take (i := 5) rfl (by kernel_rfl) (by kernel_rfl) (by kernel_rfl) rfl pq_cut ⟨hE, hK, oT, o7_5, o5_7, trivial⟩ rfl (fun w hw => R_move q8) ?_
        refine H_take (i := 7) rfl (by kernel_rfl) (by kernel_rfl) (by kernel_rfl) rfl pq_cut ⟨hE, hK, oT, o7_5, o5_7, trivial⟩ rfl (fun w hw => R_move q0) ?_
        refine H_take (i := 8) rfl (by kernel_rfl) (by kernel_rfl) (by kernel_rfl) rfl pq_cut ⟨hE, hK, oT, o7_5, o5_7, trivial⟩ rfl (fun w hw => R_move q8) ?_
        refine H_take (i := 9) rfl (by kernel_rfl) (by kernel_rfl) (by kernel_rfl) rfl pq_cut ⟨hE, hK, oT, o7_5, o5_7, trivial⟩ rfl (fun w hw => R_nilCheck rfl) ?_
        refine H_take (i := 10) rfl (by kernel_rfl) (by kernel_rfl) (by kernel_rfl) rfl pq_cut ⟨hE, hK, oT, o7_5, o5_7, trivial⟩ rfl (fun w hw => R_fieldAddr Tryz.runUnderlying125 rfl Tryz.sizeOf123 rfl) ?_
        refine H_take (i := 11) rfl (by kernel_rfl) (by kernel_rfl) (by kernel_rfl) rfl pq_cut ⟨hE, hK, oT, o7_5, o5_7, trivial⟩ rfl (fun w hw => R_ixBot (t := (f / 32)) rfl rfl (by omega)) ?_
        refine H_take (i := 16) rfl (by kernel_rfl) (by kernel_rfl) (by kernel_rfl) rfl pq_cut ⟨hE, hK, oT, o7_5, o5_7, trivial⟩ rfl (fun w hw => R_move q11) ?_
        refine H_op2 (i := 6) (i2 := 12) (by kernel_rfl) rfl rfl rfl rfl ?_ ?_
        ·
          refine D_call (R_callF Tryz.call58 rfl rfl) (c123 (n) (2) (0) ((f / 32)) _) (fun w9_6 e9_6 => ?_)
          replace hE := hE.trans e9_6
          replace hK := hK.ext e9_6
          replace oT := oT.ext e9_6
          replace o7_5 := o7_5.ext e9_6
          replace o5_7 := o5_7.ext e9_6
          replace o8_18 := o8_18.ext e9_6
          refine ⟨⟨hE, hK, oT, o7_5, o5_7, trivial⟩, ?_⟩
          refine H_op (i := 12) (by kernel_rfl) rfl rfl (D_v (R_load Tryz.isAgg22 hK rfl (ky_at (nset_at (t := (f / 32)) (by omega)))) ⟨⟨hE, hK, oT, o7_5, o5_7, trivial⟩, ?_⟩)
          refine H_op (i := 13) (by kernel_rfl) rfl rfl (D_call (R_callF Tryz.call36 rfl rfl) (c140 32 v5_7 ((leavesN n (1) ((f / 32)))) _ (by rw [leavesN_len]; omega) (by rw [leavesN_len]; omega) (by rw [leavesN_len]; omega) (o5_7.ls.lev fun _ _ _ => trivial)) (fun w9_13 e9_13 => ?_))
          replace hE := hE.trans e9_13
          replace hK := hK.ext e9_13
          replace oT := oT.ext e9_13
          replace o7_5 := o7_5.ext e9_13
          replace o5_7 := o5_7.ext e9_13
          replace o8_18 := o8_18.ext e9_13
          refine ⟨⟨hE, hK, oT, o7_5, o5_7, trivial⟩, ?_⟩
          refine H_op (i := 14) (by kernel_rfl) rfl rfl (D_callE (R_callF Tryz.call57 rfl rfl) (c122 ((keyN n (2) (0) ((f / 32)))) ((mroot 32 ((leavesN n (1) ((f / 32)))))) _) (fun v9_14 w9_14 e9_14 p9_14 => ?_))
          have o9_14 := p9_14
          have zT_v9_14 := own_apart oT.1 o9_14.1
          have zv9_14_T := fun k hk hk2 => zT_v9_14 k hk2 hk
          have zq7_5_v9_14 := own_apart o7_5.1 o9_14.1
          have zv9_14_q7_5 := fun k hk hk2 => zq7_5_v9_14 k hk2 hk
          have zv5_7_v9_14 := own_apart o5_7.1 o9_14.1
          have zv9_14_v5_7 := fun k hk hk2 => zv5_7_v9_14 k hk2 hk
          replace o9_14 := o9_14.low hE.size
          replace o9_14 := Ow.lev (lo' := w.heap.size) o9_14 (fun _ _ _ => trivial)
          replace hE := hE.trans e9_14
          replace hK := hK.ext e9_14
          replace oT := oT.ext e9_14
          replace o7_5 := o7_5.ext e9_14
          replace o5_7 := o5_7.ext e9_14
          replace o8_18 := o8_18.ext e9_14
          refine ⟨⟨hE, hK, oT, o7_5, o5_7, trivial⟩, ?_⟩
          refine H_op (i := 15) (by kernel_rfl) rfl rfl (D_callX (R_callF Tryz.call56 rfl rfl) (c121 w.heap.size _ v8_18 v9_14 (([(by8 ((((f : Nat) : Int) / 2 ^ 8))), (by8 (((f : Nat) : Int)))] ++ ((oneSig (keyN n (1) ((f / 32)) ((f % 32))) x)).flatMap Nm.b) ++ ((mpath 32 ((leavesN n (1) ((f / 32)))) ((f % 32)))).flatMap Nm.b) (oneSig (keyN n (2) (0) ((f / 32))) (mroot 32 ((leavesN n (1) ((f / 32)))))) _ hE.size (by simp only [List.length_append, flat_len, oneSig_len, hm1, hm2, List.length_cons, List.length_nil]; omega) (by simp only [oneSig_len, hm1, hm2]; omega) o8_18 (Ow.lev (lo' := _) o9_14 (fun _ _ _ => trivial))) (fun v9_15 w9_15 p9_15 => ?_))
          obtain ⟨g9_15, o9_15, sp9_15⟩ := p9_15
          replace hE := hE.grown g9_15 (fun k hk => own_ge o8_18 hk)
          replace hK := hK.grown g9_15 (own_neB o8_18 hK rfl)
          replace oT := own_trivL (lo := w.heap.size) (own_grown oT.1 g9_15 (own_ne oT.1 o8_18 rfl))
          replace o7_5 := own_trivL (lo := w.heap.size) (own_grown o7_5.1 g9_15 (own_ne o7_5.1 o8_18 rfl))
          replace o5_7 := own_trivL (lo := w.heap.size) (own_grown o5_7.1 g9_15 (own_ne o5_7.1 o8_18 rfl))
          replace o9_14 := own_trivL (lo := w.heap.size) (own_grown o9_14.1 g9_15 (own_ne o9_14.1 o8_18 rfl))
          refine ⟨⟨hE, hK, oT, o7_5, o5_7, trivial⟩, ?_⟩
          refine H_op (i := 17) (by kernel_rfl) rfl rfl (D_callX (R_callF Tryz.call56 rfl rfl) (c121 w.heap.size _ v9_15 q7_5 ((([(by8 ((((f : Nat) : Int) / 2 ^ 8))), (by8 (((f : Nat) : Int)))] ++ ((oneSig (keyN n (1) ((f / 32)) ((f % 32))) x)).flatMap Nm.b) ++ ((mpath 32 ((leavesN n (1) ((f / 32)))) ((f % 32)))).flatMap Nm.b) ++ ((oneSig (keyN n (2) (0) ((f / 32))) (mroot 32 ((leavesN n (1) ((f / 32))))))).flatMap Nm.b) (mpath 32 ((leavesN n 2 0)) ((f / 32))) _ hE.size (by simp only [List.length_append, flat_len, oneSig_len, hm1, hm2, List.length_cons, List.length_nil]; omega) (by simp only [oneSig_len, hm1, hm2]; omega) o9_15 (Ow.lev (lo' := _) o7_5 (fun _ _ _ => trivial))) (fun v9_17 w9_17 p9_17 => ?_))
          obtain ⟨g9_17, o9_17, sp9_17⟩ := p9_17
          replace hE := hE.grown g9_17 (fun k hk => own_ge o9_15 hk)
          replace hK := hK.grown g9_17 (own_neB o9_15 hK rfl)
          replace oT := own_trivL (lo := w.heap.size) (own_grown oT.1 g9_17 (own_ne oT.1 o9_15 rfl))
          replace o7_5 := own_trivL (lo := w.heap.size) (own_grown o7_5.1 g9_17 (own_ne o7_5.1 o9_15 rfl))
          replace o5_7 := own_trivL (lo := w.heap.size) (own_grown o5_7.1 g9_17 (own_ne o5_7.1 o9_15 rfl))
          replace o9_14 := own_trivL (lo := w.heap.size) (own_grown o9_14.1 g9_17 (own_ne o9_14.1 o9_15 rfl))
          refine ⟨⟨hE, hK, oT, o7_5, o5_7, trivial⟩, ?_⟩
          refine H_take (i := 18) rfl (by kernel_rfl) (by kernel_rfl) (by kernel_rfl) rfl pq_cut ⟨hE, hK, oT, o7_5, o5_7, trivial⟩ rfl (fun w hw => R_assign rfl) ?_
          refine H_take (i := 19) rfl (by kernel_rfl) (by kernel_rfl) (by kernel_rfl) rfl pq_cut ⟨hE, hK, oT, o7_5, o5_7, trivial⟩ rfl (fun w hw => R_assign rfl) ?_
          refine H_done (by kernel_rfl) ?_
          exact ⟨rfl, _, rfl, _, rfl, rfl, hE, hK, oT, o5_7, o9_17⟩
        ·
          refine D_v (R_load Tryz.isAgg22 hK rfl (ky_at (nset_at (t := (f / 32)) (by omega)))) ⟨⟨hE, hK, oT, o7_5, o5_7, trivial⟩, ?_⟩
          refine H_op (i := 6) (by kernel_rfl) rfl rfl (D_call (R_callF Tryz.call58 rfl rfl) (c123 (n) (2) (0) ((f / 32)) _) (fun w9_6 e9_6 => ?_))
          replace hE := hE.trans e9_6
          replace hK := hK.ext e9_6
          replace oT := oT.ext e9_6
          replace o7_5 := o7_5.ext e9_6
          replace o5_7 := o5_7.ext e9_6
          replace o8_18 := o8_18.ext e9_6
          refine ⟨⟨hE, hK, oT, o7_5, o5_7, trivial⟩, ?_⟩
          refine H_op (i := 13) (by kernel_rfl) rfl rfl (D_call (R_callF Tryz.call36 rfl rfl) (c140 32 v5_7 ((leavesN n (1) ((f / 32)))) _ (by rw [leavesN_len]; omega) (by rw [leavesN_len]; omega) (by rw [leavesN_len]; omega) (o5_7.ls.lev fun _ _ _ => trivial)) (fun w9_13 e9_13 => ?_))
          replace hE := hE.trans e9_13
          replace hK := hK.ext e9_13
          replace oT := oT.ext e9_13
          replace o7_5 := o7_5.ext e9_13
          replace o5_7 := o5_7.ext e9_13
          replace o8_18 := o8_18.ext e9_13
          refine ⟨⟨hE, hK, oT, o7_5, o5_7, trivial⟩, ?_⟩
          refine H_op (i := 14) (by kernel_rfl) rfl rfl (D_callE (R_callF Tryz.call57 rfl rfl) (c122 ((keyN n (2) (0) ((f / 32)))) ((mroot 32 ((leavesN n (1) ((f / 32)))))) _) (fun v9_14 w9_14 e9_14 p9_14 => ?_))
          have o9_14 := p9_14
          have zT_v9_14 := own_apart oT.1 o9_14.1
          have zv9_14_T := fun k hk hk2 => zT_v9_14 k hk2 hk
          have zq7_5_v9_14 := own_apart o7_5.1 o9_14.1
          have zv9_14_q7_5 := fun k hk hk2 => zq7_5_v9_14 k hk2 hk
          have zv5_7_v9_14 := own_apart o5_7.1 o9_14.1
          have zv9_14_v5_7 := fun k hk hk2 => zv5_7_v9_14 k hk2 hk
          replace o9_14 := o9_14.low hE.size
          replace o9_14 := Ow.lev (lo' := w.heap.size) o9_14 (fun _ _ _ => trivial)
          replace hE := hE.trans e9_14
          replace hK := hK.ext e9_14
          replace oT := oT.ext e9_14
          replace o7_5 := o7_5.ext e9_14
          replace o5_7 := o5_7.ext e9_14
          replace o8_18 := o8_18.ext e9_14
          refine ⟨⟨hE, hK, oT, o7_5, o5_7, trivial⟩, ?_⟩
          refine H_op (i := 15) (by kernel_rfl) rfl rfl (D_callX (R_callF Tryz.call56 rfl rfl) (c121 w.heap.size _ v8_18 v9_14 (([(by8 ((((f : Nat) : Int) / 2 ^ 8))), (by8 (((f : Nat) : Int)))] ++ ((oneSig (keyN n (1) ((f / 32)) ((f % 32))) x)).flatMap Nm.b) ++ ((mpath 32 ((leavesN n (1) ((f / 32)))) ((f % 32)))).flatMap Nm.b) (oneSig (keyN n (2) (0) ((f / 32))) (mroot 32 ((leavesN n (1) ((f / 32)))))) _ hE.size (by simp only [List.length_append, flat_len, oneSig_len, hm1, hm2, List.length_cons, List.length_nil]; omega) (by simp only [oneSig_len, hm1, hm2]; omega) o8_18 (Ow.lev (lo' := _) o9_14 (fun _ _ _ => trivial))) (fun v9_15 w9_15 p9_15 => ?_))
          obtain ⟨g9_15, o9_15, sp9_15⟩ := p9_15
          replace hE := hE.grown g9_15 (fun k hk => own_ge o8_18 hk)
          replace hK := hK.grown g9_15 (own_neB o8_18 hK rfl)
          replace oT := own_trivL (lo := w.heap.size) (own_grown oT.1 g9_15 (own_ne oT.1 o8_18 rfl))
          replace o7_5 := own_trivL (lo := w.heap.size) (own_grown o7_5.1 g9_15 (own_ne o7_5.1 o8_18 rfl))
          replace o5_7 := own_trivL (lo := w.heap.size) (own_grown o5_7.1 g9_15 (own_ne o5_7.1 o8_18 rfl))
          replace o9_14 := own_trivL (lo := w.heap.size) (own_grown o9_14.1 g9_15 (own_ne o9_14.1 o8_18 rfl))
          refine ⟨⟨hE, hK, oT, o7_5, o5_7, trivial⟩, ?_⟩
          refine H_op (i := 17) (by kernel_rfl) rfl rfl (D_callX (R_callF Tryz.call56 rfl rfl) (c121 w.heap.size _ v9_15 q7_5 ((([(by8 ((((f : Nat) : Int) / 2 ^ 8))), (by8 (((f : Nat) : Int)))] ++ ((oneSig (keyN n (1) ((f / 32)) ((f % 32))) x)).flatMap Nm.b) ++ ((mpath 32 ((leavesN n (1) ((f / 32)))) ((f % 32)))).flatMap Nm.b) ++ ((oneSig (keyN n (2) (0) ((f / 32))) (mroot 32 ((leavesN n (1) ((f / 32))))))).flatMap Nm.b) (mpath 32 ((leavesN n 2 0)) ((f / 32))) _ hE.size (by simp only [List.length_append, flat_len, oneSig_len, hm1, hm2, List.length_cons, List.length_nil]; omega) (by simp only [oneSig_len, hm1, hm2]; omega) o9_15 (Ow.lev (lo' := _) o7_5 (fun _ _ _ => trivial))) (fun v9_17 w9_17 p9_17 => ?_))
          obtain ⟨g9_17, o9_17, sp9_17⟩ := p9_17
          replace hE := hE.grown g9_17 (fun k hk => own_ge o9_15 hk)
          replace hK := hK.grown g9_17 (own_neB o9_15 hK rfl)
          replace oT := own_trivL (lo := w.heap.size) (own_grown oT.1 g9_17 (own_ne oT.1 o9_15 rfl))
          replace o7_5 := own_trivL (lo := w.heap.size) (own_grown o7_5.1 g9_17 (own_ne o7_5.1 o9_15 rfl))
          replace o5_7 := own_trivL (lo := w.heap.size) (own_grown o5_7.1 g9_17 (own_ne o5_7.1 o9_15 rfl))
          replace o9_14 := own_trivL (lo := w.heap.size) (own_grown o9_14.1 g9_17 (own_ne o9_14.1 o9_15 rfl))
          refine ⟨⟨hE, hK, oT, o7_5, o5_7, trivial⟩, ?_⟩
          refine H_take (i := 18) rfl (by kernel_rfl) (by kernel_rfl) (by kernel_rfl) rfl pq_cut ⟨hE, hK, oT, o7_5, o5_7, trivial⟩ rfl (fun w hw => R_assign rfl) ?_
          refine H_take (i := 19) rfl (by kernel_rfl) (by kernel_rfl) (by kernel_rfl) rfl pq_cut ⟨hE, hK, oT, o7_5, o5_7, trivial⟩ rfl (fun w hw => R_assign rfl) ?_
          refine H_done (by kernel_rfl) ?_
          exact ⟨rfl, _, rfl, _, rfl, rfl, hE, hK, oT, o5_7, o9_17⟩
      rintro f9 w9c ⟨v9_17, q6, q7, hE, hK, oT, o5_7, o9_17⟩
      refine T_tn ?_
      refine wp_ret ?_
      refine ret2 (v := v9_17) (v2 := .bool true) rfl q6 q7 ⟨_, rfl, hE, v9_17, ?_, ?_⟩
      · rw [rng_in hf]
      · rw [sig_in2 n x hf]; exact o9_17
    ·
      exfalso; revert c2; decide
set_option maxRecDepth 4000 in
set_option maxHeartbeats 2000000 in
theorem c94 (n : Nm) (I : Int) (x : Nm) (w : World) : Calls Tryz.prog 34 [n.v, i64 2, i64 I, x.v].toArray w (RetE w fun r w' => ∃ q, r = .tuple #[q, .bool (decide (0 ≤ I) && decide (I < 1024))] ∧ OwnB w' w.heap.size q (sigI n I x)) := by
  refine enter Tryz.func34 Tryz.ntmps34 rfl rfl ?_
  have hE := Ext.refl w
  refine wp_seq ?_
  refine W_region ?_
  refine L (D_box (c := (n).l) (rfl) (fun aB1_0 w1_0 e1_0 gB1_0 hB1_0 => ?_))
  have lB1_0 := Nat.le_trans hE.size gB1_0
  replace hE := hE.trans e1_0
  refine L (D_box (c := (x).l) (rfl) (fun aB1_1 w1_1 e1_1 gB1_1 hB1_1 => ?_))
  have lB1_1 := Nat.le_trans hE.size gB1_1
  have nB1_0B1_1 := hB1_0.ne gB1_1
  replace hE := hE.trans e1_1
  replace hB1_0 := hB1_0.ext e1_1
  refine L (D_v (R_assign rfl) ?_)
  refine L (D_v (R_assign rfl) ?_)
  refine S_nil ?_
  refine T_tn ?_
  refine wp_seq ?_
  refine wp_seq ?_
  refine W_region ?_
  refine L (D_v (R_move rfl) ?_)
  refine L (D_v (R_cast (v' := .bool true) (R_eqlI rfl rfl) rfl) ?_)
  refine S_nil ?_
  refine T_tn ?_
  refine W_ift rfl ?_
  refine wp_seq ?_
  refine W_held (fun W => Ext w W ∧ Blk W aB1_0 ((n).l) 29 ∧ Blk W aB1_1 ((x).l) 29 ∧ True) mixed (fun w3_99 e3_99 => ?_)
  replace hE := hE.trans e3_99
  replace hB1_0 := hB1_0.ext e3_99
  replace hB1_1 := hB1_1.ext e3_99
  refine H_take (i := 0) rfl (by kernel_rfl) (by kernel_rfl) (by kernel_rfl) rfl (pq_then (pq_then pq_body)) ⟨hE, hB1_0, hB1_1, trivial⟩ rfl (fun w hw => R_loadA (c := (n).l) Tryz.isAgg29 Tryz.sizeOf29 hw.2.1 rfl rfl rfl) ?_
  refine H_take (i := 2) rfl (by kernel_rfl) (by kernel_rfl) (by kernel_rfl) rfl (pq_then (pq_then pq_body)) ⟨hE, hB1_0, hB1_1, trivial⟩ rfl (fun w hw => R_move rfl) ?_
  refine H_take (i := 3) rfl (by kernel_rfl) (by kernel_rfl) (by kernel_rfl) rfl (pq_then (pq_then pq_body)) ⟨hE, hB1_0, hB1_1, trivial⟩ rfl (fun w hw => R_loadA (c := (x).l) Tryz.isAgg29 Tryz.sizeOf29 hw.2.2.1 rfl rfl rfl) ?_
  refine H_op (i := 1) (by kernel_rfl) rfl rfl (D_callE (R_callF Tryz.call53 rfl rfl) (c117 (n) _) (fun v3_1 w3_1 e3_1 p3_1 => ?_))
  obtain ⟨aK3_1, T3_1, rfl, gK3_1, hK3_1, o3_1⟩ := p3_1
  have yT3_1_B1_0 : Value.ownBlock T3_1 ≠ some aB1_0 := fun hk => absurd (own_ge o3_1.1 hk) (Nat.not_le.2 hB1_0.lt)
  have yT3_1_B1_1 : Value.ownBlock T3_1 ≠ some aB1_1 := fun hk => absurd (own_ge o3_1.1 hk) (Nat.not_le.2 hB1_1.lt)
  replace o3_1 := o3_1.low hE.size
  replace o3_1 := Ow.lev (lo' := w.heap.size) o3_1 (fun _ _ _ => trivial)
  have lK3_1 := Nat.le_trans hE.size gK3_1
  have nB1_0K3_1 := hB1_0.ne gK3_1
  have nB1_1K3_1 := hB1_1.ne gK3_1
  replace hE := hE.trans e3_1
  replace hB1_0 := hB1_0.ext e3_1
  replace hB1_1 := hB1_1.ext e3_1
  refine ⟨⟨hE, hB1_0, hB1_1, trivial⟩, ?_⟩
  refine H_op (i := 4) (by kernel_rfl) rfl rfl (D_callX (R_callF Tryz.call54 rfl rfl) (c118 (n) aK3_1 T3_1 _ (I) (x) _ hK3_1 (Ow.lev (lo' := _) o3_1 (fun _ _ _ => trivial))) (fun v3_4 w3_4 p3_4 => ?_))
  obtain ⟨e3_4, q3_4, rfl, o3_4⟩ := p3_4
  have hsz := hE.size
  replace hE := hE.chg e3_4 lK3_1
  replace hB1_0 := hB1_0.chg e3_4 nB1_0K3_1
  replace hB1_1 := hB1_1.chg e3_4 nB1_1K3_1
  replace o3_4 := OwnB.lo o3_4 hsz
  refine ⟨⟨hE, hB1_0, hB1_1, trivial⟩, ?_⟩
  refine H_take (i := 5) rfl (by kernel_rfl) (by kernel_rfl) (by kernel_rfl) rfl (pq_then (pq_then pq_body)) ⟨hE, hB1_0, hB1_1, trivial⟩ rfl (fun w hw => R_extract rfl rfl) ?_
  refine H_take (i := 6) rfl (by kernel_rfl) (by kernel_rfl) (by kernel_rfl) rfl (pq_then (pq_then pq_body)) ⟨hE, hB1_0, hB1_1, trivial⟩ rfl (fun w hw => R_extract rfl rfl) ?_
  refine H_take (i := 7) rfl (by kernel_rfl) (by kernel_rfl) (by kernel_rfl) rfl (pq_then (pq_then pq_body)) ⟨hE, hB1_0, hB1_1, trivial⟩ rfl (fun w hw => R_assign rfl) ?_
  refine H_take (i := 8) rfl (by kernel_rfl) (by kernel_rfl) (by kernel_rfl) rfl (pq_then (pq_then pq_body)) ⟨hE, hB1_0, hB1_1, trivial⟩ rfl (fun w hw => R_assign rfl) ?_
  refine H_done (by kernel_rfl) ?_
  refine T_tn ?_
  refine wp_ret ?_
  refine T_tr ?_
  refine ret2 (v := q3_4) (v2 := .bool _) rfl rfl rfl ⟨_, rfl, hE, ?_⟩
  exact ⟨_, rfl, o3_4⟩
end Go.Proofs.YteeopgpgbdhmhaaGreat
namespace Go.Proofs.YteeopgpgbdhmhaaGreat
open Go.RowKit
set_option linter.unusedVariables false
theorem sameKey_symm (a b : Vt) : sameKey a b = sameKey b a := by
  rw [Bool.eq_iff_iff, sameKey_iff, sameKey_iff]
  constructor <;> (rintro ⟨h1, h2, h3, h4, h5⟩; exact ⟨h1.symm, h2.symm, h3.symm, h4.symm, h5.symm⟩)
theorem sameKey_trans {a b c : Vt} (h : sameKey a b = true) (k : sameKey b c = true) : sameKey a c = true := by
  rw [sameKey_iff] at *
  obtain ⟨h1, h2, h3, h4, h5⟩ := h
  obtain ⟨k1, k2, k3, k4, k5⟩ := k
  exact ⟨h1.trans k1, h2.trans k2, h3.trans k3, h4.trans k4, h5.trans k5⟩
abbrev Fst := List Pv × List (Option (Pv × Pv))
def look (fs : List Pv) (v : Vt) : Option Pv := fs.find? fun a => sameKey a.1 v
def betters (a : Pv) (q : Option (Pv × Pv)) : Bool := match q with
  | none => true
  | some q => lessV a.1 q.1.1
def fstep (st : Fst) (s : Pv) : Fst :=
  match look st.1 s.1 with
  | none => (st.1 ++ [s], st.2)
  | some a => if betters a (st.2.getD s.1.signer.toNat none) then (st.1, st.2.set s.1.signer.toNat (some (a, s))) else st
def fst0 : Fst := ([], List.replicate 10 none)
structure FI (us : List Pv) (st : Fst) : Prop where
  len : st.2.length = 10
  sub : ∀ a ∈ st.1, a ∈ us
  key : ∀ u ∈ us, ∃ a ∈ st.1, sameKey a.1 u.1 = true
  one : ∀ a ∈ st.1, ∀ b ∈ st.1, sameKey a.1 b.1 = true → a = b
  le : ∀ a ∈ st.1, ∀ u ∈ us, sameKey a.1 u.1 = true → a = u ∨ lessV a.1 u.1 = true
  good : ∀ (i : Nat) e, st.2[i]? = some (some e) → e.1 ∈ us ∧ e.2 ∈ us ∧ sameKey e.1.1 e.2.1 = true ∧ lessV e.1.1 e.2.1 = true ∧ e.1.1.signer = (i : Int)
  nun : ∀ i : Nat, st.2[i]? = some none → ∀ x ∈ us, ∀ y ∈ us, x.1.signer = (i : Int) → sameKey x.1 y.1 = true → x = y
theorem FI.zero : FI [] fst0 := by
  refine ⟨rfl, by simp [fst0], by simp, by simp [fst0], by simp [fst0], fun i e h => ?_, by simp⟩
  have h1 := List.mem_of_getElem? h
  simp [fst0] at h1
theorem FI.step {us : List Pv} {st : Fst} {s : Pv} (h : FI us st) (hs : ∀ u ∈ us, lessV u.1 s.1 = true) (hv : 0 ≤ s.1.signer ∧ s.1.signer ≤ 9) : FI (us ++ [s]) (fstep st s) := by
  have mono : ∀ x, x ∈ us → x ∈ us ++ [s] := fun x hx => List.mem_append_left _ hx
  have good' : ∀ (i : Nat) e, st.2[i]? = some (some e) → e.1 ∈ us ++ [s] ∧ e.2 ∈ us ++ [s] ∧ sameKey e.1.1 e.2.1 = true ∧ lessV e.1.1 e.2.1 = true ∧ e.1.1.signer = (i : Int) :=
    fun i e he => ⟨mono _ (h.good i e he).1, mono _ (h.good i e he).2.1, (h.good i e he).2.2⟩
  unfold fstep
  cases hl : look st.1 s.1 with
  | none =>
    have hno : ∀ a ∈ st.1, sameKey a.1 s.1 = false := by
      intro a ha
      have := List.find?_eq_none.1 hl a ha
      simpa using this
    have hnu : ∀ u ∈ us, sameKey u.1 s.1 = false := by
      intro u hu
      obtain ⟨a, ha, hk⟩ := h.key u hu
      cases e : sameKey u.1 s.1 with
      | false => rfl
      | true => have := hno a ha; rw [sameKey_trans hk e] at this; cases this
    refine ⟨h.len, ?_, ?_, ?_, ?_, good', ?_⟩
    · intro a ha
      rcases List.mem_append.1 ha with h1 | h1
      · exact mono _ (h.sub a h1)
      · exact List.mem_append_right _ h1
    · intro u hu
      rcases List.mem_append.1 hu with h1 | h1
      · obtain ⟨a, ha, hk⟩ := h.key u h1; exact ⟨a, List.mem_append_left _ ha, hk⟩
      · rw [List.mem_singleton] at h1; subst h1; exact ⟨u, List.mem_append_right _ (List.mem_singleton_self _), sameKey_refl _⟩
    · intro a ha b hb hk
      rcases List.mem_append.1 ha with h1 | h1 <;> rcases List.mem_append.1 hb with h2 | h2
      · exact h.one a h1 b h2 hk
      · rw [List.mem_singleton] at h2; subst h2; rw [hno a h1] at hk; cases hk
      · rw [List.mem_singleton] at h1; subst h1; rw [sameKey_symm, hno b h2] at hk; cases hk
      · rw [List.mem_singleton] at h1 h2; rw [h1, h2]
    · intro a ha u hu hk
      rcases List.mem_append.1 ha with h1 | h1 <;> rcases List.mem_append.1 hu with h2 | h2
      · exact h.le a h1 u h2 hk
      · rw [List.mem_singleton] at h2; subst h2; rw [hno a h1] at hk; cases hk
      · rw [List.mem_singleton] at h1; subst h1; rw [sameKey_symm, hnu u h2] at hk; cases hk
      · rw [List.mem_singleton] at h1 h2; left; rw [h1, h2]
    · intro i hi x hx y hy hg hk
      rcases List.mem_append.1 hx with h1 | h1 <;> rcases List.mem_append.1 hy with h2 | h2
      · exact h.nun i hi x h1 y h2 hg hk
      · rw [List.mem_singleton] at h2; subst h2; rw [hnu x h1] at hk; cases hk
      · rw [List.mem_singleton] at h1; subst h1; rw [sameKey_symm, hnu y h2] at hk; cases hk
      · rw [List.mem_singleton] at h1 h2; rw [h1, h2]
  | some a =>
    have ha : a ∈ st.1 := List.mem_of_find?_eq_some hl
    have hk : sameKey a.1 s.1 = true := by have := List.find?_some hl; simpa using this
    have hau := h.sub a ha
    have hlt : lessV a.1 s.1 = true := hs a hau
    have key' : ∀ u ∈ us ++ [s], ∃ a ∈ st.1, sameKey a.1 u.1 = true := by
      intro u hu
      rcases List.mem_append.1 hu with h1 | h1
      · exact h.key u h1
      · rw [List.mem_singleton] at h1; subst h1; exact ⟨a, ha, hk⟩
    have le' : ∀ a ∈ st.1, ∀ u ∈ us ++ [s], sameKey a.1 u.1 = true → a = u ∨ lessV a.1 u.1 = true := by
      intro b hb u hu hbk
      rcases List.mem_append.1 hu with h1 | h1
      · exact h.le b hb u h1 hbk
      · rw [List.mem_singleton] at h1; subst h1; exact .inr (hs b (h.sub b hb))
    have nn : ∀ i : Nat, st.2[i]? = some none → s.1.signer ≠ (i : Int) → ∀ x ∈ us ++ [s], ∀ y ∈ us ++ [s], x.1.signer = (i : Int) → sameKey x.1 y.1 = true → x = y := by
      intro i hi hne x hx y hy hg hk2
      have hg2 : y.1.signer = (i : Int) := by rw [← sameKey_signer hk2]; exact hg
      rcases List.mem_append.1 hx with h1 | h1 <;> rcases List.mem_append.1 hy with h2 | h2
      · exact h.nun i hi x h1 y h2 hg hk2
      · rw [List.mem_singleton] at h2; subst h2; exact absurd hg2 hne
      · rw [List.mem_singleton] at h1; subst h1; exact absurd hg hne
      · rw [List.mem_singleton] at h1 h2; rw [h1, h2]
    obtain ⟨i, hi⟩ := Int.eq_ofNat_of_zero_le hv.1
    have hin : s.1.signer.toNat = i := by rw [hi]; rfl
    have hi10 : i < st.2.length := by rw [h.len]; omega
    show FI (us ++ [s]) (if betters a (st.2.getD s.1.signer.toNat none) then (st.1, st.2.set s.1.signer.toNat (some (a, s))) else st)
    rw [hin]
    have hsm : s ∈ us ++ [s] := List.mem_append_right _ (List.mem_singleton_self _)
    split
    · refine ⟨by simp [h.len], fun a ha => mono _ (h.sub a ha), key', h.one, le', ?_, ?_⟩
      · intro j e he
        rw [List.getElem?_set] at he
        by_cases hij : i = j
        · subst hij
          rw [if_pos rfl, if_pos hi10] at he
          cases he
          exact ⟨mono _ hau, hsm, hk, hlt, by rw [sameKey_signer hk, hi]⟩
        · rw [if_neg hij] at he; exact good' j e he
      · intro j hj
        rw [List.getElem?_set] at hj
        by_cases hij : i = j
        · rw [if_pos hij, if_pos hi10] at hj; cases hj
        · rw [if_neg hij] at hj; exact nn j hj (by omega)
    · rename_i hb
      refine ⟨h.len, fun a ha => mono _ (h.sub a ha), key', h.one, le', good', ?_⟩
      intro j hj
      refine nn j hj fun e => ?_
      have : j = i := by omega
      subst this
      rw [List.getD_eq_getElem?_getD, hj] at hb
      exact hb rfl
theorem FI.all : ∀ (vs us : List Pv) (st : Fst), FI us st → asc (us ++ vs) → (∀ v ∈ vs, 0 ≤ v.1.signer ∧ v.1.signer ≤ 9) → FI (us ++ vs) (vs.foldl fstep st)
  | [], us, st, h, _, _ => by simpa using h
  | s :: vs, us, st, h, ha, hv => by
    have hs : ∀ u ∈ us, lessV u.1 s.1 = true := fun u hu => (List.pairwise_append.1 ha).2.2 u hu s (List.mem_cons_self ..)
    have := FI.all vs (us ++ [s]) (fstep st s) (h.step hs (hv s (List.mem_cons_self ..))) (by rw [List.append_assoc]; exact ha) (fun v h => hv v (List.mem_cons_of_mem _ h))
    rw [List.append_assoc] at this
    exact this
end Go.Proofs.YteeopgpgbdhmhaaGreat
namespace Go.Proofs.YteeopgpgbdhmhaaGreat
open Go.RowKit Go.Lib
set_option linter.unusedVariables false
set_option linter.unusedSimpArgs false
def keyL (v : Vt) : List Value := [i64 v.kind, i64 v.slot, i64 v.round, i64 v.signer] ++ v.parent.l
def keyVt (v : Vt) : Value := .agg (keyL v).toArray
structure Mp (w : World) (m : Nat) (fs : List Sg) : Prop where
  obj : ∃ es c, w.heap[m]? = some (.map es c) ∧ es.toList.map (fun e => (e.key, e.val)) = fs.map (fun x => (keyVt x.vote, x.v))
  good : ∀ a ∈ fs, valid a.vote = true
  one : ∀ a ∈ fs, ∀ b ∈ fs, sameKey a.vote b.vote = true → a = b
theorem Mp.lt {w : World} {m : Nat} {fs : List Sg} (h : Mp w m fs) : m < w.heap.size := by
  obtain ⟨es, c, h1, _⟩ := h.obj
  exact (Array.getElem?_eq_some_iff.1 h1).1
theorem Mp.of_heap {w w' : World} {m : Nat} {fs : List Sg} (h : Mp w m fs) (e : w'.heap[m]? = w.heap[m]?) : Mp w' m fs := ⟨by rw [e]; exact h.obj, h.good, h.one⟩
theorem Mp.ext {w w' : World} {m : Nat} {fs : List Sg} (h : Mp w m fs) (e : Ext w w') : Mp w' m fs := h.of_heap (Below.block e m h.lt)
theorem Mp.kp {w w' : World} {g m : Nat} {fs : List Sg} (h : Mp w m fs) (k : Kp g w w') (hn : m ≠ g) : Mp w' m fs := h.of_heap (k.block m hn)
theorem Mp.chg {w w' : World} {g m : Nat} {fs : List Sg} (h : Mp w m fs) (k : Chg g w w') (hn : m ≠ g) : Mp w' m fs := h.of_heap (k.block m h.lt hn)
theorem Mp.grown {w w' : World} {m : Nat} {fs : List Sg} {row : Option Nat} (h : Mp w m fs) (g : w.grownBy w' row) (hr : row ≠ some m) : Mp w' m fs := h.of_heap (g.5 m h.lt hr.symm)
theorem Mp.ne {w : World} {m g' : Nat} {fs : List Sg} (h : Mp w m fs) (hg : w.heap.size ≤ g') : m ≠ g' := Nat.ne_of_lt (Nat.lt_of_lt_of_le h.lt hg)
theorem Mp.notB {w : World} {m : Nat} {fs : List Sg} (h : Mp w m fs) (hT : Nat.beq 0 5 = false) : ¬ isB w m := by
  rintro ⟨c, fz, hc⟩
  obtain ⟨es, k, h1, _⟩ := h.obj
  rw [h1] at hc; cases hc
theorem Mp.new {w : World} {m : Nat} (h : w.heap[m]? = some (.map #[] 0)) : Mp w m [] := ⟨⟨#[], 0, h, rfl⟩, by simp, by simp⟩
def AllS (lo : Nat) (w : World) (ys : List Sg) : Prop := ∀ y ∈ ys, y.okf lo w
theorem AllS.fb {lo : Nat} {w w' : World} {ys : List Sg} (h : AllS lo w ys) (f : Fb lo w w') : AllS lo w' ys := fun y hy => (h y hy).fb f
section
variable {ρ : Operand → Value} {w : World} {dst : Option Tmp} {ty : TypeId} {pos : String} {aft : Array Edge} {gd : Option (Nat × Bool)}
end
section
variable {ops : Array Oper} {Q : Exit → Act → World → Prop} {K : Act → World → Prop} {n : Nat} {f : Nat → Value} {w : World} {d : Option Tmp} {ty : TypeId} {pos : String} {aft : Array Edge}
end
def mixO (bs : List Bool) (es : List Ev) : List (Option (Pv × Pv)) := List.zipWith (fun b e => cond b (some e.p) none) bs es
def Fs (ys : List Pv) (fs : List Sg) (bs : List Bool) (es : List Ev) : Prop := ys.foldl fstep fst0 = (fs.map Sg.p, mixO bs es) ∧ bs.length = 10 ∧ es.length = 10
theorem Fs.zero : Fs [] [] (List.replicate 10 false) (List.replicate 10 Ev.zero) := ⟨rfl, rfl, rfl⟩
end Go.Proofs.YteeopgpgbdhmhaaGreat
namespace Go.Proofs.YteeopgpgbdhmhaaGreat
open Go.RowKit Go.Lib
set_option linter.unusedVariables false
set_option linter.unusedSimpArgs false
theorem zero947 : Tryz.zeroCells47 = (Sg.zero.l ++ (Sg.zero.l ++ Sg.zero.l)).toArray := by rfl
theorem fill947 (a b c : Sg) : Instr.fill (fun i => some (i * 23, 23)) Tryz.zeroCells47 [(0, .agg a.l.toArray), (1, .agg b.l.toArray), (2, .agg c.l.toArray)] = some (cS.cs [a, b, c]).toArray := by
  rw [zero947]
  rw [fill_step (off := 0) (size := 23) (c := a.l) rfl rfl rfl (by decide), fill_step (off := 23) (size := 23) (c := b.l) rfl rfl rfl (by simp [Sg.l_len]), fill_step (off := 46) (size := 23) (c := c.l) rfl rfl rfl (by simp [Sg.l_len]), Instr.fill]
  rfl
theorem mapp3 {n : Nat} {f : Nat → Value} {x0 x1 x2 : Operand} {u0 u1 u2 : Value} (h0 : ov n f x0 = u0) (h1 : ov n f x1 = u1) (h2 : ov n f x2 = u2) : (#[(0, x0), (1, x1), (2, x2)] : Array (Nat × Operand)).toList.map (fun p => (p.1, ov n f p.2)) = [(0, u0), (1, u1), (2, u2)] := by
  subst h0 h1 h2; rfl
theorem R_ixSg {ρ : Operand → Value} {w : World} {dst : Option Tmp} {ty : TypeId} {pos : String} {aft : Array Edge} {gd : Option (Nat × Bool)} {t : TypeId} {len : Nat} {x y : Operand} {i : Nat} {k : IntKind} {es : List Sg} (ht : ∀ w, (underlying t).run Tryz.prog w = .ok (.array len 34) w) (hx : ρ x = .agg (cS.cs es).toArray) (hy : ρ y = .int k ((i : Nat) : Int)) (hl : es.length = len) (hi : i < len) :
    (execOp ρ ⟨dst, .index t x y, ty, pos, aft, gd⟩).run Tryz.prog w = .ok (.value (es.getD i Sg.zero).v) w := by
  have hp : (part 34 (cS.cs es).toArray (i * 23)).run Tryz.prog w = .ok (.agg (es.getD i Sg.zero).l.toArray) w := by
    refine run_partA Tryz.sizeOf34 Tryz.isAgg34 _ _ _ ?_ (Nat.ble_eq_true_of_le (by rw [cs_len]; show i * 23 + 23 ≤ es.length * 23; omega)) w
    apply List.ext_getElem?
    intro j
    rw [List.getElem?_take]
    by_cases hj : j < 23
    · rw [if_pos hj, List.getElem?_drop]
      exact cs_at (C := cS) (getD_some (d := Sg.zero) (by omega)) j hj
    · rw [if_neg hj, List.getElem?_eq_none (by rw [Sg.l_len]; omega)]
  have h0 : (0 : Int) ≤ ((i : Nat) : Int) := Int.natCast_nonneg _
  have h1 : ((i : Nat) : Int) < ((len : Nat) : Int) := by omega
  simp [execOp, hx, hy, Instr.index, ht, asIntOf, Tryz.sizeOf34, h0, h1, hi, hp]
  rfl
theorem okf3 {lo : Nat} {w : World} {a b c : Sg} {i : Nat} (ha : a.okf lo w) (hb : b.okf lo w) (hc : c.okf lo w) (hi : i < 3) : Sg.okf lo w (([a, b, c] : List Sg).getD i Sg.zero) := by
  rcases i with _ | _ | _ | i
  · exact ha
  · exact hb
  · exact hc
  · omega
theorem okL_valid {x : Vt} {I : Int} (h : okL x I = true) : valid x = true := (Bool.and_eq_true_iff.1 h).1
section
variable {P : Program} {ops : Array Oper} {Q : Exit → Act → World → Prop} {K : Act → World → Prop} {n : Nat} {f : Nat → Value} {w : World} {d : Option Tmp} {ty : TypeId} {pos : String} {aft : Array Edge}
theorem D_build0V {t : TypeId} (ht : P.underlying t = some (.slice 5)) (hs : ∀ w, (sizeOf 5).run P w = .ok 1 w)
    (h : ∀ v' w', OwnB w' w.heap.size v' [] → Ext w w' → (∃ b, v' = .slice (some b) 0 0) → K (E n (upo f d v')) w') : wpO P ops Q ⟨d, .buildSlice t 0 #[], ty, pos, aft, none⟩ K (E n f) w := by
  refine D_v (v := .slice (some ⟨w.heap.size, 0, none⟩) 0 0) (w' := w.alloc (.cells #[] 5)) ?_ ?_
  · simp [go_sem, Instr.buildSlice, run_underlying ht, hs, Instr.fill]
  · refine h _ _ ⟨rfl, .inr ⟨w.heap.size, 0, _, rfl, Nat.le_refl _, heap_alloc_new w _, Nat.le_refl _, by simp [maxLen], rfl, rfl⟩⟩ (Ext.alloc _ _) ⟨_, rfl⟩
theorem D_appendFull0 {t : TypeId} {s x : Operand} {v u : Value} {news : List UInt8} (hI : ElT P 5 1 1) (ht : P.underlying t = some (.slice 5)) (hs : ov n f s = v) (hx : ov n f x = u) (hq : ∃ b, v = .slice (some b) 0 0) (hu : Bs w u news) (hm : 0 < news.length)
    (hb : news.length ≤ 140737488355328)
    (h : ∀ v' w', OwnB w' w.heap.size v' ([] ++ news) → Ext w w' → K (E n (upo f d v')) w') :
    wpO P ops Q ⟨d, .call ⟨.builtin .append, #[s, x], #[t, t]⟩, ty, pos, aft, none⟩ K (E n f) w := by
  obtain ⟨b, rfl⟩ := hq
  obtain ⟨i, z, hi, hz, h1, h2, h3⟩ := hI
  obtain ⟨hl2, A2, c2, rfl, _, _, hA2, hc2⟩ := hu
  cases A2 with
  | none => have := hA2 rfl; omega
  | some a =>
    obtain ⟨v', w', hr, h4, h5⟩ := run_append_arg_grows (P := P) w t ty 5 i z 1 1 ht hi hz h1 h2 h3 (by decide) b 0 0 [] rfl (fun j u hj => by simp at hj) a news.length c2 (bl news) hl2 (fun j u hj => by obtain ⟨_, e, hc⟩ := hc2 j u hj; cases e; exact hc) (by omega) (by simp only [maxLen]; omega) (by omega)
    refine D_v (v := v') (w' := w') ?_ (h v' w' (OwnB.of h4 (by simp) (by simp)) ((Ext.refl w).grown h5 (by simp)))
    simp only [execOp, resolve, invoke, builtin, Sem.run_bind, Sem.run_pure, Result.andThen_ok, List.map_toArray, List.map_cons, List.map_nil, hs, hx, hr]
end
end Go.Proofs.YteeopgpgbdhmhaaGreat
namespace Go.Proofs.YteeopgpgbdhmhaaGreat
open Go.RowKit
set_option linter.unusedVariables false
set_option linter.unusedSimpArgs false
attribute [local irreducible] wpList wpO H wpQuiet wpStill Code.wp Exit.then Exit.inBlock bodyPost Code.rounds Calls valid sameKey lessV hless num between
set_option maxRecDepth 4000 in
set_option maxHeartbeats 2000000 in
theorem c54o (n : Nm) (I : Int) (x : Vt) (w : World) : Calls Tryz.prog 16 [n.v, i64 I, x.v].toArray w (RetE w fun r w' => ∃ (a : Vt) (V : Value) (b : List UInt8), r = .tuple #[(mkSg a V b).v, .bool (okL x I)] ∧ (a, b) = sgP n I x ∧ OwnB w' w.heap.size V b) := by
  refine enter Tryz.func16 Tryz.ntmps16 rfl rfl ?_
  have hE := Ext.refl w
  refine wp_seq ?_
  refine W_region ?_
  refine L (D_box (c := (n).l) (rfl) (fun aB1_0 w1_0 e1_0 gB1_0 hB1_0 => ?_))
  have lB1_0 := Nat.le_trans hE.size gB1_0
  replace hE := hE.trans e1_0
  refine L (D_box (c := (x).l) (rfl) (fun aB1_1 w1_1 e1_1 gB1_1 hB1_1 => ?_))
  have lB1_1 := Nat.le_trans hE.size gB1_1
  have nB1_0B1_1 := hB1_0.ne gB1_1
  replace hE := hE.trans e1_1
  replace hB1_0 := hB1_0.ext e1_1
  refine L (D_alloc (c := (Sg.zero).l) Tryz.zeroValue34 rfl (fun aB1_2 w1_2 e1_2 gB1_2 hB1_2 => ?_))
  have lB1_2 := Nat.le_trans hE.size gB1_2
  have nB1_0B1_2 := hB1_0.ne gB1_2
  have nB1_1B1_2 := hB1_1.ne gB1_2
  replace hE := hE.trans e1_2
  replace hB1_0 := hB1_0.ext e1_2
  replace hB1_1 := hB1_1.ext e1_2
  refine L (D_v (R_assign rfl) ?_)
  refine S_nil ?_
  refine T_tn ?_
  refine wp_seq ?_
  refine wp_seq ?_
  refine W_region ?_
  refine L (D_v (R_loadA (c := (x).l) Tryz.isAgg31 Tryz.sizeOf31 hB1_1 rfl rfl rfl) ?_)
  refine L (D_call (R_callF Tryz.call33 rfl rfl) (c27 (x) _ ) (fun w2_1 e2_1 => ?_))
  replace hE := hE.trans e2_1
  replace hB1_0 := hB1_0.ext e2_1
  replace hB1_1 := hB1_1.ext e2_1
  replace hB1_2 := hB1_2.ext e2_1
  refine L (D_v (R_not rfl) ?_)
  refine S_nil ?_
  refine T_tn ?_
  refine W_if rfl (fun c1 => ?_) (fun c1 => ?_)
  ·
    have hok : okL x I = false := okL_nv c1
    refine wp_seq ?_
    refine W_region ?_
    refine L (D_v (R_buildS (c := Sg.zero.l) Tryz.runUnderlying34 places53 Tryz.zeroValue34 rfl rfl) ?_)
    have h0 := hB1_2
    refine L (D_storeA Tryz.sizeOf34 hB1_2 rfl rfl rfl rfl rfl (l' := (Sg.zero).l) rfl (fun w3_1 k3_1 hB1_2 => ?_))
    replace hE := hE.kp k3_1 lB1_2
    refine L (D_v (R_assign rfl) ?_)
    refine S_nil ?_
    refine T_tn ?_
    refine wp_ret ?_
    refine T_tr ?_
    refine retct (c := (Sg.zero).l) (v2 := .bool false) rfl rfl rfl Tryz.isAgg34 Tryz.sizeOf34 hB1_2 rfl rfl ⟨_, rfl, hE, ?_⟩
    rw [hok]; exact ⟨Vt.zero, .slice none 0 0, [], rfl, (sgP_no hok).symm, OwnB.nil _ _⟩
  ·
    have hv : valid x = true := by simpa using c1
    have hw59 := hE.size
    refine wp_skip ?_
    refine T_tn ?_
    refine wp_seq ?_
    refine W_held (fun W => Ext w W ∧ Blk W aB1_0 ((n).l) 29 ∧ Blk W aB1_1 ((x).l) 31 ∧ Blk W aB1_2 ((Sg.zero).l) 34 ∧ True) mixed (fun w3_99 e3_99 => ?_)
    replace hE := hE.trans e3_99
    replace hB1_0 := hB1_0.ext e3_99
    replace hB1_1 := hB1_1.ext e3_99
    replace hB1_2 := hB1_2.ext e3_99
    refine H_take (i := 0) rfl (by kernel_rfl) (by kernel_rfl) (by kernel_rfl) rfl (pq_then pq_body) ⟨hE, hB1_0, hB1_1, hB1_2, trivial⟩ rfl (fun w hw => R_loadA (c := (n).l) Tryz.isAgg29 Tryz.sizeOf29 hw.2.1 rfl rfl rfl) ?_
    refine H_take (i := 1) rfl (by kernel_rfl) (by kernel_rfl) (by kernel_rfl) rfl (pq_then pq_body) ⟨hE, hB1_0, hB1_1, hB1_2, trivial⟩ rfl (fun w hw => R_move rfl) ?_
    refine H_take (i := 2) rfl (by kernel_rfl) (by kernel_rfl) (by kernel_rfl) rfl (pq_then pq_body) ⟨hE, hB1_0, hB1_1, hB1_2, trivial⟩ rfl (fun w hw => R_loadA (c := (x).l) Tryz.isAgg31 Tryz.sizeOf31 hw.2.2.1 rfl rfl rfl) ?_
    refine H_op (i := 3) (by kernel_rfl) rfl rfl (D_call (R_callF Tryz.call35 rfl rfl) (c39 (x) _) (fun w3_3 e3_3 => ?_))
    replace hE := hE.trans e3_3
    replace hB1_0 := hB1_0.ext e3_3
    replace hB1_1 := hB1_1.ext e3_3
    replace hB1_2 := hB1_2.ext e3_3
    refine ⟨⟨hE, hB1_0, hB1_1, hB1_2, trivial⟩, ?_⟩
    refine H_op (i := 4) (by kernel_rfl) rfl rfl (D_callE (R_callF Tryz.call34 rfl rfl) (c94 (n) (I) ((nameV x)) _) (fun v3_4 w3_4 e3_4 p3_4 => ?_))
    obtain ⟨q3_4, rfl, o3_4⟩ := p3_4
    replace o3_4 := o3_4.lo hE.size
    replace hE := hE.trans e3_4
    replace hB1_0 := hB1_0.ext e3_4
    replace hB1_1 := hB1_1.ext e3_4
    replace hB1_2 := hB1_2.ext e3_4
    refine ⟨⟨hE, hB1_0, hB1_1, hB1_2, trivial⟩, ?_⟩
    refine H_take (i := 5) rfl (by kernel_rfl) (by kernel_rfl) (by kernel_rfl) rfl (pq_then pq_body) ⟨hE, hB1_0, hB1_1, hB1_2, trivial⟩ rfl (fun w hw => R_move rfl) ?_
    refine H_take (i := 6) rfl (by kernel_rfl) (by kernel_rfl) (by kernel_rfl) rfl (pq_then pq_body) ⟨hE, hB1_0, hB1_1, hB1_2, trivial⟩ rfl (fun w hw => R_extract rfl rfl) ?_
    refine H_take (i := 7) rfl (by kernel_rfl) (by kernel_rfl) (by kernel_rfl) rfl (pq_then pq_body) ⟨hE, hB1_0, hB1_1, hB1_2, trivial⟩ rfl (fun w hw => R_extract rfl rfl) ?_
    refine H_take (i := 8) rfl (by kernel_rfl) (by kernel_rfl) (by kernel_rfl) rfl (pq_then pq_body) ⟨hE, hB1_0, hB1_1, hB1_2, trivial⟩ rfl (fun w hw => R_assign rfl) ?_
    refine H_take (i := 9) rfl (by kernel_rfl) (by kernel_rfl) (by kernel_rfl) rfl (pq_then pq_body) ⟨hE, hB1_0, hB1_1, hB1_2, trivial⟩ rfl (fun w hw => R_assign rfl) ?_
    refine H_done (by kernel_rfl) ?_
    refine T_tn ?_
    refine wp_seq ?_
    refine wp_seq ?_
    refine W_region ?_
    refine L (D_v (R_move rfl) ?_)
    refine L (D_v (R_not rfl) ?_)
    refine S_nil ?_
    refine T_tn ?_
    refine W_if rfl (fun c2 => ?_) (fun c2 => ?_)
    ·
      have hok : okL x I = false := okL_ni c2
      refine wp_seq ?_
      refine W_region ?_
      refine L (D_v (R_buildS (c := Sg.zero.l) Tryz.runUnderlying34 places53 Tryz.zeroValue34 rfl rfl) ?_)
      have h0 := hB1_2
      refine L (D_storeA Tryz.sizeOf34 hB1_2 rfl rfl rfl rfl rfl (l' := (Sg.zero).l) rfl (fun w5_1 k5_1 hB1_2 => ?_))
      replace hE := hE.kp k5_1 lB1_2
      refine L (D_v (R_assign rfl) ?_)
      refine S_nil ?_
      refine T_tn ?_
      refine wp_ret ?_
      refine T_tr ?_
      refine retct (c := (Sg.zero).l) (v2 := .bool false) rfl rfl rfl Tryz.isAgg34 Tryz.sizeOf34 hB1_2 rfl rfl ⟨_, rfl, hE, ?_⟩
      rw [hok]; exact ⟨Vt.zero, .slice none 0 0, [], rfl, (sgP_no hok).symm, OwnB.nil _ _⟩
    ·
      have hok : okL x I = true := okL_y hv c2
      refine wp_skip ?_
      refine T_tn ?_
      refine wp_seq ?_
      refine W_region ?_
      refine L (D_v (R_loadA (c := (x).l) Tryz.isAgg31 Tryz.sizeOf31 hB1_1 rfl rfl rfl) ?_)
      refine L (D_v (R_move rfl) ?_)
      have k5_2 : Sg.okf w.heap.size w3_4 (mkSg (x) q3_4 (sigI n (I) ((nameV x)))) := mkSg_ok _ (Bf.own o3_4)
      refine L (D_v (R_buildS (vs := [(0, .agg (x).l.toArray), (1, q3_4)]) (c := (mkSg (x) q3_4 (sigI n (I) ((nameV x)))).l) Tryz.runUnderlying34 places53 Tryz.zeroValue34 (mapp2 rfl rfl) (fill53 _ o3_4.bs)) ?_)
      have xo3_4 := own_neB o3_4 hB1_2 rfl
      have h0 := hB1_2
      refine L (D_storeA Tryz.sizeOf34 hB1_2 rfl rfl rfl rfl rfl (l' := ((mkSg (x) q3_4 (sigI n (I) ((nameV x))))).l) rfl (fun w5_3 k5_3 hB1_2 => ?_))
      have f5_3 := Fb.kp k5_3 (Nat.le_trans (Nat.le_refl _) lB1_2) (Blk.notB h0 rfl)
      replace hE := hE.kp k5_3 lB1_2
      replace hB1_1 := hB1_1.kp k5_3 nB1_1B1_2
      replace o3_4 := o3_4.kp k5_3 xo3_4
      replace k5_2 := k5_2.fb f5_3
      refine L (D_v (R_assign rfl) ?_)
      refine S_nil ?_
      refine T_tn ?_
      refine wp_ret ?_
      refine retct (c := ((mkSg (x) q3_4 (sigI n (I) ((nameV x))))).l) (v2 := .bool true) rfl rfl rfl Tryz.isAgg34 Tryz.sizeOf34 hB1_2 rfl rfl ⟨_, rfl, hE, ?_⟩
      rw [hok]; exact ⟨_, _, _, rfl, (sgP_y hok).symm, o3_4⟩
set_option maxRecDepth 4000 in
set_option maxHeartbeats 2000000 in
theorem c917 (n : Nm) (lv : Int) (w : World) (hlv : lv = 2) : Calls Tryz.prog 17 [n.v, i64 lv].toArray w (Ret w (pubN n).v) := by
  refine enter Tryz.func17 Tryz.ntmps17 rfl rfl ?_
  have hE := Ext.refl w
  refine wp_seq ?_
  refine W_region ?_
  refine L (D_box (c := (n).l) (rfl) (fun aB1_0 w1_0 e1_0 gB1_0 hB1_0 => ?_))
  have lB1_0 := Nat.le_trans hE.size gB1_0
  replace hE := hE.trans e1_0
  refine L (D_alloc (c := (Nm.zero).l) Tryz.zeroValue29 rfl (fun aB1_1 w1_1 e1_1 gB1_1 hB1_1 => ?_))
  have lB1_1 := Nat.le_trans hE.size gB1_1
  have nB1_0B1_1 := hB1_0.ne gB1_1
  replace hE := hE.trans e1_1
  replace hB1_0 := hB1_0.ext e1_1
  refine S_nil ?_
  refine T_tn ?_
  refine wp_seq ?_
  refine wp_seq ?_
  refine W_region ?_
  refine L (D_v (R_move rfl) ?_)
  refine L (D_v (R_lssI rfl rfl) ?_)
  refine L (D_v (R_move rfl) ?_)
  refine L (D_g1 rfl rfl (fun hb => R_move rfl) ?_)
  refine L (D_g1 rfl rfl (fun hb => R_gtrI (cgE hb) rfl) ?_)
  refine L (D_v (R_pickO rfl rfl rfl) ?_)
  refine S_nil ?_
  refine T_tn ?_
  refine W_if rfl (fun c1 => ?_) (fun c1 => ?_)
  ·
    exfalso; revert c1; rw [hlv]; decide
  ·
    subst hlv
    refine wp_skip ?_
    refine T_tn ?_
    refine wp_seq ?_
    refine W_region ?_
    refine L (D_v (R_loadA (c := (n).l) Tryz.isAgg29 Tryz.sizeOf29 hB1_0 rfl rfl rfl) ?_)
    refine L (D_v (R_move rfl) ?_)
    refine L (D_callE (R_callF Tryz.call37 rfl rfl) (c120 (n) (2) (0) _) (fun v3_2 w3_2 e3_2 p3_2 => ?_))
    have o3_2 := p3_2
    have yv3_2_B1_0 : Value.ownBlock v3_2 ≠ some aB1_0 := fun hk => absurd (own_ge o3_2.1 hk) (Nat.not_le.2 hB1_0.lt)
    have yv3_2_B1_1 : Value.ownBlock v3_2 ≠ some aB1_1 := fun hk => absurd (own_ge o3_2.1 hk) (Nat.not_le.2 hB1_1.lt)
    replace o3_2 := o3_2.low hE.size
    replace o3_2 := Ow.lev (lo' := w.heap.size) o3_2 (fun _ _ _ => trivial)
    replace hE := hE.trans e3_2
    replace hB1_0 := hB1_0.ext e3_2
    replace hB1_1 := hB1_1.ext e3_2
    refine L (D_call (R_callF Tryz.call36 rfl rfl) (c140 32 v3_2 ((leavesN n (2) (0))) _ (by rw [leavesN_len]; omega) (by rw [leavesN_len]; omega) (by rw [leavesN_len]; omega) (o3_2.ls.lev fun _ _ _ => trivial)) (fun w3_3 e3_3 => ?_))
    replace hE := hE.trans e3_3
    replace hB1_0 := hB1_0.ext e3_3
    replace hB1_1 := hB1_1.ext e3_3
    replace o3_2 := o3_2.ext e3_3
    have xo3_2 := yv3_2_B1_1
    have h0 := hB1_1
    refine L (D_storeA Tryz.sizeOf29 hB1_1 rfl rfl rfl rfl rfl (l' := ((mroot 32 ((leavesN n (2) (0))))).l) rfl (fun w3_4 k3_4 hB1_1 => ?_))
    have f3_4 := Fb.kp k3_4 (Nat.le_trans (Nat.le_refl _) lB1_1) (Blk.notB h0 rfl)
    replace hE := hE.kp k3_4 lB1_1
    replace hB1_0 := hB1_0.kp k3_4 nB1_0B1_1
    replace o3_2 := o3_2.kp k3_4 xo3_2 f3_4
    refine S_nil ?_
    refine T_tn ?_
    refine wp_ret ?_
    refine retc (c := ((mroot 32 ((leavesN n (2) (0))))).l) rfl rfl Tryz.isAgg29 Tryz.sizeOf29 hB1_1 rfl rfl ⟨?_, hE⟩
    rfl
set_option maxRecDepth 4000 in
set_option maxHeartbeats 4000000 in
theorem c904 (n k : Nm) (I : Int) (x y : Vt) (v : Value) (b : List UInt8) (J : Int) (c : UInt8) (w : World) (h : Bs w v b) : Calls Tryz.prog 4 [n.v, k.v, i64 I, x.v, y.v, v, i64 J, u8 c].toArray w (Ret w (.bool true)) := by
  refine enter Tryz.func4 Tryz.ntmps4 rfl rfl ?_
  have hE := Ext.refl w
  refine wp_seq ?_
  refine W_region ?_
  refine L (D_box (c := (n).l) (rfl) (fun aB1_0 w1_0 e1_0 gB1_0 hB1_0 => ?_))
  have lB1_0 := Nat.le_trans hE.size gB1_0
  replace hE := hE.trans e1_0
  refine L (D_box (c := (k).l) (rfl) (fun aB1_1 w1_1 e1_1 gB1_1 hB1_1 => ?_))
  have lB1_1 := Nat.le_trans hE.size gB1_1
  have nB1_0B1_1 := hB1_0.ne gB1_1
  replace hE := hE.trans e1_1
  replace hB1_0 := hB1_0.ext e1_1
  refine L (D_box (c := (x).l) (rfl) (fun aB1_2 w1_2 e1_2 gB1_2 hB1_2 => ?_))
  have lB1_2 := Nat.le_trans hE.size gB1_2
  have nB1_0B1_2 := hB1_0.ne gB1_2
  have nB1_1B1_2 := hB1_1.ne gB1_2
  replace hE := hE.trans e1_2
  replace hB1_0 := hB1_0.ext e1_2
  replace hB1_1 := hB1_1.ext e1_2
  refine L (D_box (c := (y).l) (rfl) (fun aB1_3 w1_3 e1_3 gB1_3 hB1_3 => ?_))
  have lB1_3 := Nat.le_trans hE.size gB1_3
  have nB1_0B1_3 := hB1_0.ne gB1_3
  have nB1_1B1_3 := hB1_1.ne gB1_3
  have nB1_2B1_3 := hB1_2.ne gB1_3
  replace hE := hE.trans e1_3
  replace hB1_0 := hB1_0.ext e1_3
  replace hB1_1 := hB1_1.ext e1_3
  replace hB1_2 := hB1_2.ext e1_3
  refine L (D_v (R_assign rfl) ?_)
  refine S_nil ?_
  refine T_tn ?_
  refine wp_seq ?_
  refine W_region ?_
  refine L (D_v (R_loadA (c := (n).l) Tryz.isAgg29 Tryz.sizeOf29 hB1_0 rfl rfl rfl) ?_)
  refine L (D_v (R_move rfl) ?_)
  refine L (D_v (R_conv Tryz.runUnderlying3 Tryz.runUnderlying45 rfl) ?_)
  have hi1 : (IntKind.wrap .u64 (I)).toNat % 1024 < 1024 := Nat.mod_lt _ (by decide)
  have hix := hi1
  refine L (D_v (R_remW (M := I) (L := 1024) rfl rfl (by decide) (by decide)) ?_)
  refine L (D_v (R_convN (e := ((IntKind.wrap .u64 (I)).toNat % 1024)) Tryz.runUnderlying45 Tryz.runUnderlying3 rfl (Nat.le_trans (Nat.le_of_lt hix) (by (try simp only [List.length_take, List.length_drop, List.length_append, List.length_cons, List.length_nil, List.length_replicate, List.length_set, Nm.b_len, be2_len]); omega))) ?_)
  refine L (D_v (R_loadA (c := (x).l) Tryz.isAgg31 Tryz.sizeOf31 hB1_2 rfl rfl rfl) ?_)
  refine L (D_callE (R_callF Tryz.call16 rfl rfl) (c54o (n) (((((IntKind.wrap .u64 (I)).toNat % 1024) : Nat) : Int)) (x) _) (fun v2_6 w2_6 e2_6 p2_6 => ?_))
  obtain ⟨a2_6, V2_6, b2_6, rfl, py2_6, o2_6⟩ := p2_6
  replace o2_6 := o2_6.lo hE.size
  replace hE := hE.trans e2_6
  replace hB1_0 := hB1_0.ext e2_6
  replace hB1_1 := hB1_1.ext e2_6
  replace hB1_2 := hB1_2.ext e2_6
  replace hB1_3 := hB1_3.ext e2_6
  have k2_6 : Sg.okf w.heap.size w2_6 (mkSg a2_6 V2_6 b2_6) := mkSg_ok _ (Bf.own o2_6)
  refine L (D_v (R_move rfl) ?_)
  refine L (D_v (R_extract rfl rfl) ?_)
  refine L (D_v (R_extract rfl rfl) ?_)
  refine L (D_alloc (c := (Sg.zero).l) Tryz.zeroValue34 rfl (fun aB2_10 w2_10 e2_10 gB2_10 hB2_10 => ?_))
  have lB2_10 := Nat.le_trans hE.size gB2_10
  have nB1_0B2_10 := hB1_0.ne gB2_10
  have nB1_1B2_10 := hB1_1.ne gB2_10
  have nB1_2B2_10 := hB1_2.ne gB2_10
  have nB1_3B2_10 := hB1_3.ne gB2_10
  replace hE := hE.trans e2_10
  replace hB1_0 := hB1_0.ext e2_10
  replace hB1_1 := hB1_1.ext e2_10
  replace hB1_2 := hB1_2.ext e2_10
  replace hB1_3 := hB1_3.ext e2_10
  replace o2_6 := o2_6.ext e2_10
  replace k2_6 := k2_6.fb (Fb.ext e2_10)
  have xo2_6 := own_neB o2_6 hB2_10 rfl
  have h0 := hB2_10
  refine L (D_storeA Tryz.sizeOf34 hB2_10 rfl rfl rfl rfl rfl (l' := ((mkSg a2_6 V2_6 b2_6)).l) rfl (fun w2_11 k2_11 hB2_10 => ?_))
  have f2_11 := Fb.kp k2_11 (Nat.le_trans (Nat.le_refl _) lB2_10) (Blk.notB h0 rfl)
  replace hE := hE.kp k2_11 lB2_10
  replace hB1_0 := hB1_0.kp k2_11 nB1_0B2_10
  replace hB1_1 := hB1_1.kp k2_11 nB1_1B2_10
  replace hB1_2 := hB1_2.kp k2_11 nB1_2B2_10
  replace hB1_3 := hB1_3.kp k2_11 nB1_3B2_10
  replace o2_6 := o2_6.kp k2_11 xo2_6
  replace k2_6 := k2_6.fb f2_11
  refine L (D_v (R_assign rfl) ?_)
  refine S_nil ?_
  refine T_tn ?_
  refine wp_seq ?_
  refine W_region ?_
  refine L (D_v (R_loadA (c := (n).l) Tryz.isAgg29 Tryz.sizeOf29 hB1_0 rfl rfl rfl) ?_)
  refine L (D_call (R_callF Tryz.call17 rfl rfl) (c917 (n) 2 _ rfl) (fun w3_1 e3_1 => ?_))
  replace hE := hE.trans e3_1
  replace hB1_0 := hB1_0.ext e3_1
  replace hB1_1 := hB1_1.ext e3_1
  replace hB1_2 := hB1_2.ext e3_1
  replace hB1_3 := hB1_3.ext e3_1
  replace hB2_10 := hB2_10.ext e3_1
  replace o2_6 := o2_6.ext e3_1
  replace k2_6 := k2_6.fb (Fb.ext e3_1)
  refine L (D_alloc (c := (Nm.zero).l) Tryz.zeroValue29 rfl (fun aB3_2 w3_2 e3_2 gB3_2 hB3_2 => ?_))
  have lB3_2 := Nat.le_trans hE.size gB3_2
  have nB1_0B3_2 := hB1_0.ne gB3_2
  have nB1_1B3_2 := hB1_1.ne gB3_2
  have nB1_2B3_2 := hB1_2.ne gB3_2
  have nB1_3B3_2 := hB1_3.ne gB3_2
  have nB2_10B3_2 := hB2_10.ne gB3_2
  replace hE := hE.trans e3_2
  replace hB1_0 := hB1_0.ext e3_2
  replace hB1_1 := hB1_1.ext e3_2
  replace hB1_2 := hB1_2.ext e3_2
  replace hB1_3 := hB1_3.ext e3_2
  replace hB2_10 := hB2_10.ext e3_2
  replace o2_6 := o2_6.ext e3_2
  replace k2_6 := k2_6.fb (Fb.ext e3_2)
  have xo2_6 := own_neB o2_6 hB3_2 rfl
  have h0 := hB3_2
  refine L (D_storeA Tryz.sizeOf29 hB3_2 rfl rfl rfl rfl rfl (l' := ((pubN n)).l) rfl (fun w3_3 k3_3 hB3_2 => ?_))
  have f3_3 := Fb.kp k3_3 (Nat.le_trans (Nat.le_refl _) lB3_2) (Blk.notB h0 rfl)
  replace hE := hE.kp k3_3 lB3_2
  replace hB1_0 := hB1_0.kp k3_3 nB1_0B3_2
  replace hB1_1 := hB1_1.kp k3_3 nB1_1B3_2
  replace hB1_2 := hB1_2.kp k3_3 nB1_2B3_2
  replace hB1_3 := hB1_3.kp k3_3 nB1_3B3_2
  replace hB2_10 := hB2_10.kp k3_3 nB2_10B3_2
  replace o2_6 := o2_6.kp k3_3 xo2_6
  replace k2_6 := k2_6.fb f3_3
  refine S_nil ?_
  refine T_tn ?_
  refine wp_seq ?_
  refine wp_seq ?_
  refine W_region ?_
  refine L (D_v (R_move rfl) ?_)
  refine S_nil ?_
  refine T_tn ?_
  refine W_if rfl (fun c1 => ?_) (fun c1 => ?_)
  ·
    have hok : okL x ((((IntKind.wrap .u64 (I)).toNat % 1024) : Nat) : Int) = true := c1
    have hv := okL_valid hok
    have hy := py2_6
    rw [sgP_nat hok] at hy
    have hy1 : a2_6 = x := congrArg Prod.fst hy
    have hy2 : b2_6 = sigN n ((IntKind.wrap .u64 (I)).toNat % 1024) (nameV x) := congrArg Prod.snd hy
    have hyl : b2_6.length = 370 := by rw [hy2]; exact sigN_len n _ hi1
    have hyl2 : (mkSg a2_6 V2_6 b2_6).sig.length = 370 := hyl
    have hver : verP (pubN n) (mkSg a2_6 V2_6 b2_6).p = true := by show verP (pubN n) (a2_6, b2_6) = true; rw [hy1, hy2]; exact ver_yes hv hi1
    refine wp_seq ?_
    refine W_region ?_
    refine L (D_build0V Tryz.underlying32 Tryz.sizeOf5 (fun v5_0 w5_0 o5_0 e5_0 qv5_0 => ?_))
    have zV2_6_v5_0 := own_apart o2_6 o5_0
    have zv5_0_V2_6 := fun k hk hk2 => zV2_6_v5_0 k hk2 hk
    replace o5_0 := o5_0.lo hE.size
    replace hE := hE.trans e5_0
    replace hB1_1 := hB1_1.ext e5_0
    replace hB1_2 := hB1_2.ext e5_0
    replace hB1_3 := hB1_3.ext e5_0
    replace hB2_10 := hB2_10.ext e5_0
    replace hB3_2 := hB3_2.ext e5_0
    replace o2_6 := o2_6.ext e5_0
    replace k2_6 := k2_6.fb (Fb.ext e5_0)
    refine L (D_v (R_fieldAddr Tryz.runUnderlying34 rfl Tryz.sizeOf32 rfl) ?_)
    refine L (D_v (R_load Tryz.isAgg32 hB2_10 rfl rfl) ?_)
    refine L (D_appendFull0 elt5 Tryz.underlying32 rfl rfl qv5_0 k2_6.bs (by (try simp only [List.length_take, List.length_drop, List.length_append, List.length_cons, List.length_nil, List.length_replicate, List.length_set, Nm.b_len, be2_len]); omega) (by (try simp only [List.length_take, List.length_drop, List.length_append, List.length_cons, List.length_nil, List.length_replicate, List.length_set, Nm.b_len, be2_len]); omega) (fun v5_3 w5_3 o5_3 e5_3 => ?_))
    have zV2_6_v5_3 := own_apart o2_6 o5_3
    have zv5_3_V2_6 := fun k hk hk2 => zV2_6_v5_3 k hk2 hk
    replace o5_3 := o5_3.lo hE.size
    replace hE := hE.trans e5_3
    replace hB1_1 := hB1_1.ext e5_3
    replace hB1_2 := hB1_2.ext e5_3
    replace hB1_3 := hB1_3.ext e5_3
    replace hB2_10 := hB2_10.ext e5_3
    replace hB3_2 := hB3_2.ext e5_3
    replace o2_6 := o2_6.ext e5_3
    replace k2_6 := k2_6.fb (Fb.ext e5_3)
    refine L (D_v (R_assign rfl) ?_)
    refine S_nil ?_
    refine T_tn ?_
    refine wp_seq ?_
    refine W_region ?_
    refine L (D_v (R_move rfl) ?_)
    refine L (D_v (R_move rfl) ?_)
    refine L (D_v (R_conv Tryz.runUnderlying3 Tryz.runUnderlying45 rfl) ?_)
    refine L (D_v (R_move rfl) ?_)
    refine L (D_v (R_len Tryz.underlying32 rfl o5_3.bs) ?_)
    refine L (D_v (R_conv Tryz.runUnderlying3 Tryz.runUnderlying45 rfl) ?_)
    have hix : (IntKind.wrap .u64 (J)).toNat % (([] ++ ((mkSg a2_6 V2_6 b2_6)).sig)).length < (([] ++ ((mkSg a2_6 V2_6 b2_6)).sig)).length := Nat.mod_lt _ (by (try simp only [List.length_take, List.length_drop, List.length_append, List.length_cons, List.length_nil, List.length_replicate, List.length_set, Nm.b_len, be2_len]); omega)
    refine L (D_v (R_remW (M := J) (L := (([] ++ ((mkSg a2_6 V2_6 b2_6)).sig)).length) rfl rfl (by (try simp only [List.length_take, List.length_drop, List.length_append, List.length_cons, List.length_nil, List.length_replicate, List.length_set, Nm.b_len, be2_len]); omega) (by (try simp only [List.length_take, List.length_drop, List.length_append, List.length_cons, List.length_nil, List.length_replicate, List.length_set, Nm.b_len, be2_len]); omega)) ?_)
    refine L (D_v (R_convN (e := ((IntKind.wrap .u64 (J)).toNat % (([] ++ ((mkSg a2_6 V2_6 b2_6)).sig)).length)) Tryz.runUnderlying45 Tryz.runUnderlying3 rfl (Nat.le_trans (Nat.le_of_lt hix) (by (try simp only [List.length_take, List.length_drop, List.length_append, List.length_cons, List.length_nil, List.length_replicate, List.length_set, Nm.b_len, be2_len]); omega))) ?_)
    refine L (D_v (R_elAddr (i := ((IntKind.wrap .u64 (J)).toNat % (([] ++ ((mkSg a2_6 V2_6 b2_6)).sig)).length)) Tryz.underlying32 Tryz.sizeOf5 rfl rfl o5_3.bs hix) ?_)
    refine L (D_v (R_loadEl (u := u8 (((([] ++ ((mkSg a2_6 V2_6 b2_6)).sig)).getD ((IntKind.wrap .u64 (J)).toNat % (([] ++ ((mkSg a2_6 V2_6 b2_6)).sig)).length) 0))) Tryz.isAgg5 rfl o5_3.bs (bl_get hix)) ?_)
    refine L (D_v (R_move rfl) ?_)
    refine L (D_v (R_xorB rfl rfl) ?_)
    refine L (D_v (R_elAddr (i := ((IntKind.wrap .u64 (J)).toNat % (([] ++ ((mkSg a2_6 V2_6 b2_6)).sig)).length)) Tryz.underlying32 Tryz.sizeOf5 rfl rfl o5_3.bs hix) ?_)
    refine L (D_storeElB (j := ((IntKind.wrap .u64 (J)).toNat % (([] ++ ((mkSg a2_6 V2_6 b2_6)).sig)).length)) rfl rfl o5_3 hix (fun w6_13 o6_13 g6_13 => ?_))
    replace hE := hE.grown g6_13 (fun k hk => own_ge o5_3 hk)
    replace hB1_1 := hB1_1.grown g6_13 (own_neB o5_3 hB1_1 rfl)
    replace hB1_2 := hB1_2.grown g6_13 (own_neB o5_3 hB1_2 rfl)
    replace hB1_3 := hB1_3.grown g6_13 (own_neB o5_3 hB1_3 rfl)
    replace hB2_10 := hB2_10.grown g6_13 (own_neB o5_3 hB2_10 rfl)
    replace hB3_2 := hB3_2.grown g6_13 (own_neB o5_3 hB3_2 rfl)
    replace o2_6 := o2_6.grown g6_13 (zV2_6_v5_3)
    have k2_6 : Sg.okf w.heap.size w6_13 (mkSg a2_6 V2_6 b2_6) := mkSg_ok _ (Bf.own o2_6)
    refine S_nil ?_
    refine T_tn ?_
    refine wp_seq ?_
    refine wp_seq ?_
    refine W_region ?_
    refine L (D_v (R_loadA (c := (y).l) Tryz.isAgg31 Tryz.sizeOf31 hB1_3 rfl rfl rfl) ?_)
    refine L (D_v (R_fieldAddr Tryz.runUnderlying34 rfl Tryz.sizeOf32 rfl) ?_)
    refine L (D_v (R_load Tryz.isAgg32 hB2_10 rfl rfl) ?_)
    have k7_3 : Sg.okf w.heap.size w6_13 (mkSg (y) (.slice ((mkSg a2_6 V2_6 b2_6)).A ((mkSg a2_6 V2_6 b2_6)).n ((mkSg a2_6 V2_6 b2_6)).c) ((mkSg a2_6 V2_6 b2_6)).sig) := mkSg_ok _ k2_6
    refine L (D_v (R_buildS (vs := [(0, .agg (y).l.toArray), (1, (.slice ((mkSg a2_6 V2_6 b2_6)).A ((mkSg a2_6 V2_6 b2_6)).n ((mkSg a2_6 V2_6 b2_6)).c))]) (c := (mkSg (y) (.slice ((mkSg a2_6 V2_6 b2_6)).A ((mkSg a2_6 V2_6 b2_6)).n ((mkSg a2_6 V2_6 b2_6)).c) ((mkSg a2_6 V2_6 b2_6)).sig).l) Tryz.runUnderlying34 places53 Tryz.zeroValue34 (mapp2 rfl rfl) (fill53 _ k2_6.bs)) ?_)
    refine L (D_v (R_loadA (c := (x).l) Tryz.isAgg31 Tryz.sizeOf31 hB1_2 rfl rfl rfl) ?_)
    refine L (D_v (R_move rfl) ?_)
    have k7_6 : Sg.okf w.heap.size w6_13 (mkSg (x) v5_3 (([] ++ ((mkSg a2_6 V2_6 b2_6)).sig).set ((IntKind.wrap .u64 (J)).toNat % (([] ++ ((mkSg a2_6 V2_6 b2_6)).sig)).length) (((([] ++ ((mkSg a2_6 V2_6 b2_6)).sig)).getD ((IntKind.wrap .u64 (J)).toNat % (([] ++ ((mkSg a2_6 V2_6 b2_6)).sig)).length) 0) ^^^ c))) := mkSg_ok _ (Bf.own o6_13)
    refine L (D_v (R_buildS (vs := [(0, .agg (x).l.toArray), (1, v5_3)]) (c := (mkSg (x) v5_3 (([] ++ ((mkSg a2_6 V2_6 b2_6)).sig).set ((IntKind.wrap .u64 (J)).toNat % (([] ++ ((mkSg a2_6 V2_6 b2_6)).sig)).length) (((([] ++ ((mkSg a2_6 V2_6 b2_6)).sig)).getD ((IntKind.wrap .u64 (J)).toNat % (([] ++ ((mkSg a2_6 V2_6 b2_6)).sig)).length) 0) ^^^ c))).l) Tryz.runUnderlying34 places53 Tryz.zeroValue34 (mapp2 rfl rfl) (fill53 _ o6_13.bs)) ?_)
    refine L (D_v (R_loadA (c := ((mkSg a2_6 V2_6 b2_6)).l) Tryz.isAgg34 Tryz.sizeOf34 hB2_10 rfl rfl rfl) ?_)
    obtain ⟨L9, hL9⟩ : ∃ L : List Sg, L = [(mkSg (y) (.slice ((mkSg a2_6 V2_6 b2_6)).A ((mkSg a2_6 V2_6 b2_6)).n ((mkSg a2_6 V2_6 b2_6)).c) ((mkSg a2_6 V2_6 b2_6)).sig), (mkSg (x) v5_3 (([] ++ ((mkSg a2_6 V2_6 b2_6)).sig).set ((IntKind.wrap .u64 (J)).toNat % (([] ++ ((mkSg a2_6 V2_6 b2_6)).sig)).length) (((([] ++ ((mkSg a2_6 V2_6 b2_6)).sig)).getD ((IntKind.wrap .u64 (J)).toNat % (([] ++ ((mkSg a2_6 V2_6 b2_6)).sig)).length) 0) ^^^ c))), (mkSg a2_6 V2_6 b2_6)] := ⟨_, rfl⟩
    refine L (D_v (R_buildA (vs := [(0, .agg ((mkSg (y) (.slice ((mkSg a2_6 V2_6 b2_6)).A ((mkSg a2_6 V2_6 b2_6)).n ((mkSg a2_6 V2_6 b2_6)).c) ((mkSg a2_6 V2_6 b2_6)).sig)).l.toArray), (1, .agg ((mkSg (x) v5_3 (([] ++ ((mkSg a2_6 V2_6 b2_6)).sig).set ((IntKind.wrap .u64 (J)).toNat % (([] ++ ((mkSg a2_6 V2_6 b2_6)).sig)).length) (((([] ++ ((mkSg a2_6 V2_6 b2_6)).sig)).getD ((IntKind.wrap .u64 (J)).toNat % (([] ++ ((mkSg a2_6 V2_6 b2_6)).sig)).length) 0) ^^^ c)))).l.toArray), (2, .agg ((mkSg a2_6 V2_6 b2_6)).l.toArray)]) (c := (cS.cs L9)) Tryz.runUnderlying47 Tryz.sizeOf34 Tryz.zeroValue47 (mapp3 rfl rfl rfl) (by rw [hL9]; exact fill947 _ _ _)) ?_)
    refine L (D_v (R_move rfl) ?_)
    refine S_nil ?_
    refine T_tn ?_
    refine wp_block ?_
    refine W_loop (fun mz g W => ∃ (m : Nat), mz = 3 - m ∧ g 5 = v ∧ g 9 = .pointer (some ⟨aB1_1, 0, none⟩) ∧ g 12 = .pointer (some ⟨aB1_3, 0, none⟩) ∧ g 17 = .pointer (some ⟨aB2_10, 0, none⟩) ∧ g 19 = .pointer (some ⟨aB3_2, 0, none⟩) ∧ g 62 = .agg (cS.cs L9).toArray ∧ g 63 = i64 ((m : Nat) : Int) ∧ Ext w W ∧ Blk W aB1_1 ((k).l) 29 ∧ Blk W aB1_3 ((y).l) 31 ∧ Blk W aB2_10 (((mkSg a2_6 V2_6 b2_6)).l) 34 ∧ Blk W aB3_2 (((pubN n)).l) 29 ∧ Sg.okf w.heap.size W (mkSg a2_6 V2_6 b2_6) ∧ Sg.okf w.heap.size W (mkSg (y) (.slice ((mkSg a2_6 V2_6 b2_6)).A ((mkSg a2_6 V2_6 b2_6)).n ((mkSg a2_6 V2_6 b2_6)).c) ((mkSg a2_6 V2_6 b2_6)).sig) ∧ Sg.okf w.heap.size W (mkSg (x) v5_3 (([] ++ ((mkSg a2_6 V2_6 b2_6)).sig).set ((IntKind.wrap .u64 (J)).toNat % (([] ++ ((mkSg a2_6 V2_6 b2_6)).sig)).length) (((([] ++ ((mkSg a2_6 V2_6 b2_6)).sig)).getD ((IntKind.wrap .u64 (J)).toNat % (([] ++ ((mkSg a2_6 V2_6 b2_6)).sig)).length) 0) ^^^ c)))) ⟨0, rfl, rfl, rfl, rfl, rfl, rfl, rfl, rfl, hE, hB1_1, hB1_3, hB2_10, hB3_2, k2_6, k7_3, k7_6⟩ ?_
    rintro mz f8 w8l ⟨m, hm, q5, q9, q12, q17, q19, q62, q63, hE, hB1_1, hB1_3, hB2_10, hB3_2, k2_6, k7_3, k7_6⟩
    refine wp_seq ?_
    refine W_region ?_
    refine L (D_v (R_lssI q63 rfl) ?_)
    refine S_nil ?_
    refine T_tn ?_
    refine wp_seq ?_
    refine W_if rfl (fun c2 => ?_) (fun c2 => ?_)
    ·
      have lk : m < 3 := by have h9 := of_decide_eq_true c2; omega
      refine wp_skip ?_
      refine T_tn ?_
      refine wp_seq ?_
      refine wp_block ?_
      refine wp_seq ?_
      refine W_region ?_
      have k10_0 : Sg.okf w.heap.size w8l ((L9).getD m Sg.zero) := by rw [hL9]; exact okf3 k7_3 k7_6 k2_6 lk
      refine L (D_v (R_ixSg (i := m) Tryz.runUnderlying47 q62 q63 (by rw [hL9]; rfl) lk) ?_)
      refine L (D_alloc (c := (Sg.zero).l) Tryz.zeroValue34 rfl (fun aB10_1 w10_1 e10_1 gB10_1 hB10_1 => ?_))
      have lB10_1 := Nat.le_trans hE.size gB10_1
      have nB1_1B10_1 := hB1_1.ne gB10_1
      have nB1_3B10_1 := hB1_3.ne gB10_1
      have nB2_10B10_1 := hB2_10.ne gB10_1
      have nB3_2B10_1 := hB3_2.ne gB10_1
      replace hE := hE.trans e10_1
      replace hB1_1 := hB1_1.ext e10_1
      replace hB1_3 := hB1_3.ext e10_1
      replace hB2_10 := hB2_10.ext e10_1
      replace hB3_2 := hB3_2.ext e10_1
      replace k2_6 := k2_6.fb (Fb.ext e10_1)
      replace k7_3 := k7_3.fb (Fb.ext e10_1)
      replace k7_6 := k7_6.fb (Fb.ext e10_1)
      replace k10_0 := k10_0.fb (Fb.ext e10_1)
      have h0 := hB10_1
      refine L (D_storeA Tryz.sizeOf34 hB10_1 rfl rfl rfl rfl rfl (l' := (((L9).getD m Sg.zero)).l) rfl (fun w10_2 k10_2 hB10_1 => ?_))
      have f10_2 := Fb.kp k10_2 (Nat.le_trans (Nat.le_refl _) lB10_1) (Blk.notB h0 rfl)
      replace hE := hE.kp k10_2 lB10_1
      replace hB1_1 := hB1_1.kp k10_2 nB1_1B10_1
      replace hB1_3 := hB1_3.kp k10_2 nB1_3B10_1
      replace hB2_10 := hB2_10.kp k10_2 nB2_10B10_1
      replace hB3_2 := hB3_2.kp k10_2 nB3_2B10_1
      replace k2_6 := k2_6.fb f10_2
      replace k7_3 := k7_3.fb f10_2
      replace k7_6 := k7_6.fb f10_2
      replace k10_0 := k10_0.fb f10_2
      refine S_nil ?_
      refine T_tn ?_
      refine wp_seq ?_
      refine W_draw mixed (by kernel_rfl) ?_
      refine Q_v (fun w hw => R_loadA (c := ((pubN n)).l) Tryz.isAgg29 Tryz.sizeOf29 (hB3_2.ext hw) q19 rfl rfl) ?_
      refine Q_v (fun w hw => R_loadA (c := (((L9).getD m Sg.zero)).l) Tryz.isAgg34 Tryz.sizeOf34 (hB10_1.ext hw) rfl rfl rfl) ?_
      refine Q_call (fun w hw => R_callF Tryz.call18 rfl rfl) (fun w hw => c75 ((pubN n)) (((L9).getD m Sg.zero)) _ ((k10_0.fb (Fb.ext hw)).up (Nat.le_trans (Nat.le_refl _) (hE.trans hw).size))) ?_
      refine Q_v (fun w hw => R_loadA (c := ((pubN n)).l) Tryz.isAgg29 Tryz.sizeOf29 (hB3_2.ext hw) q19 rfl rfl) ?_
      refine Q_v (fun w hw => R_loadA (c := (((L9).getD m Sg.zero)).l) Tryz.isAgg34 Tryz.sizeOf34 (hB10_1.ext hw) rfl rfl rfl) ?_
      refine Q_call (fun w hw => R_callF Tryz.call19 rfl rfl) (fun w hw => c116 ((pubN n)) (((L9).getD m Sg.zero)) _ ((k10_0.fb (Fb.ext hw)).up (Nat.le_trans (Nat.le_refl _) (hE.trans hw).size))) ?_
      refine Q_v (fun w hw => R_neqB Tryz.underlying4 rfl rfl) ?_
      refine Q_nil (fun w11_99 e11_99 => ?_)
      replace hE := hE.trans e11_99
      replace hB1_1 := hB1_1.ext e11_99
      replace hB1_3 := hB1_3.ext e11_99
      replace hB2_10 := hB2_10.ext e11_99
      replace hB3_2 := hB3_2.ext e11_99
      replace hB10_1 := hB10_1.ext e11_99
      replace k2_6 := k2_6.fb (Fb.ext e11_99)
      replace k7_3 := k7_3.fb (Fb.ext e11_99)
      replace k7_6 := k7_6.fb (Fb.ext e11_99)
      replace k10_0 := k10_0.fb (Fb.ext e11_99)
      refine T_tn ?_
      refine W_if rfl (fun c3 => ?_) (fun c3 => ?_)
      ·
        exfalso; revert c3; simp
      ·
        refine wp_skip ?_
        refine T_bn ?_
        refine T_tn ?_
        refine W_region ?_
        refine L (D_v (R_addN (m := m) (j := 1) q63 rfl (by (try simp only [List.length_take, List.length_drop, List.length_append, List.length_cons, List.length_nil, List.length_replicate, List.length_set, Nm.b_len, be2_len]); omega)) ?_)
        refine L (D_v (R_move rfl) ?_)
        refine S_nil ?_
        refine T_tn ?_
        refine ⟨_, _, ?_, rfl, m + 1, rfl, q5, q9, q12, q17, q19, q62, rfl, hE, hB1_1, hB1_3, hB2_10, hB3_2, k2_6, k7_3, k7_6⟩
        all_goals omega
    ·
      refine wp_exit ?_
      refine T_te ?_
      refine T_te ?_
      refine T_be ?_
      refine T_tn ?_
      refine wp_seq ?_
      refine W_draw mixed (by kernel_rfl) ?_
      refine Q_v (fun w hw => R_loadA (c := ((pubN n)).l) Tryz.isAgg29 Tryz.sizeOf29 (hB3_2.ext hw) q19 rfl rfl) ?_
      refine Q_v (fun w hw => R_loadA (c := ((mkSg a2_6 V2_6 b2_6)).l) Tryz.isAgg34 Tryz.sizeOf34 (hB2_10.ext hw) q17 rfl rfl) ?_
      refine Q_call (fun w hw => R_callF Tryz.call18 rfl rfl) (fun w hw => c75 ((pubN n)) ((mkSg a2_6 V2_6 b2_6)) _ ((k2_6.fb (Fb.ext hw)).up (Nat.le_trans (Nat.le_refl _) (hE.trans hw).size))) ?_
      refine Q_v (fun w hw => R_not rfl) ?_
      refine Q_v (fun w hw => R_move rfl) ?_
      refine Q_g1 rfl rfl (fun hb w hw => R_loadA (c := (k).l) Tryz.isAgg29 Tryz.sizeOf29 (hB1_1.ext hw) q9 rfl rfl) ?_
      refine Q_g1 rfl rfl (fun hb w hw => R_loadA (c := ((mkSg a2_6 V2_6 b2_6)).l) Tryz.isAgg34 Tryz.sizeOf34 (hB2_10.ext hw) q17 rfl rfl) ?_
      refine Q_gc1 rfl rfl (fun hb w hw => R_callF Tryz.call18 (mapv2 (cgE hb) (cgE hb)) rfl) (fun hb w hw => c75 (k) ((mkSg a2_6 V2_6 b2_6)) _ ((k2_6.fb (Fb.ext hw)).up (Nat.le_trans (Nat.le_refl _) (hE.trans hw).size))) ?_
      refine Q_g1 rfl rfl (fun hb w hw => R_loadA (c := (k).l) Tryz.isAgg29 Tryz.sizeOf29 (hB1_1.ext hw) q9 rfl rfl) ?_
      refine Q_g1 rfl rfl (fun hb w hw => R_loadA (c := ((mkSg a2_6 V2_6 b2_6)).l) Tryz.isAgg34 Tryz.sizeOf34 (hB2_10.ext hw) q17 rfl rfl) ?_
      refine Q_gc1 rfl rfl (fun hb w hw => R_callF Tryz.call19 (mapv2 (cgE hb) (cgE hb)) rfl) (fun hb w hw => c116 (k) ((mkSg a2_6 V2_6 b2_6)) _ ((k2_6.fb (Fb.ext hw)).up (Nat.le_trans (Nat.le_refl _) (hE.trans hw).size))) ?_
      refine Q_g1 rfl rfl (fun hb w hw => R_neqB Tryz.underlying4 (cgE hb) (cgE hb)) ?_
      refine Q_v (fun w hw => R_pickO rfl rfl rfl) ?_
      refine Q_nil (fun w10_99 e10_99 => ?_)
      replace hE := hE.trans e10_99
      replace hB1_1 := hB1_1.ext e10_99
      replace hB1_3 := hB1_3.ext e10_99
      replace hB2_10 := hB2_10.ext e10_99
      replace hB3_2 := hB3_2.ext e10_99
      replace k2_6 := k2_6.fb (Fb.ext e10_99)
      replace k7_3 := k7_3.fb (Fb.ext e10_99)
      replace k7_6 := k7_6.fb (Fb.ext e10_99)
      refine T_tn ?_
      refine W_if rfl (fun c3 => ?_) (fun c3 => ?_)
      ·
        exfalso; revert c3; rw [hver]; simp
      ·
        refine wp_skip ?_
        refine T_tn ?_
        refine wp_seq ?_
        refine W_region ?_
        refine L (D_v (R_loadA (c := (y).l) Tryz.isAgg31 Tryz.sizeOf31 hB1_3 q12 rfl rfl) ?_)
        refine L (D_v (R_move q5) ?_)
        have k11_2 : Sg.okf w.heap.size w10_99 (mkSg (y) v b) := mkSg_ok _ (Bf.old h hE (Nat.le_refl _))
        refine L (D_v (R_buildS (vs := [(0, .agg (y).l.toArray), (1, v)]) (c := (mkSg (y) v b).l) Tryz.runUnderlying34 places53 Tryz.zeroValue34 (mapp2 rfl rfl) (fill53 _ (h.ext hE))) ?_)
        refine L (D_alloc (c := (Sg.zero).l) Tryz.zeroValue34 rfl (fun aB11_3 w11_3 e11_3 gB11_3 hB11_3 => ?_))
        have lB11_3 := Nat.le_trans hE.size gB11_3
        have nB1_1B11_3 := hB1_1.ne gB11_3
        have nB1_3B11_3 := hB1_3.ne gB11_3
        replace hE := hE.trans e11_3
        replace hB1_1 := hB1_1.ext e11_3
        replace hB1_3 := hB1_3.ext e11_3
        replace k2_6 := k2_6.fb (Fb.ext e11_3)
        replace k7_3 := k7_3.fb (Fb.ext e11_3)
        replace k7_6 := k7_6.fb (Fb.ext e11_3)
        replace k11_2 := k11_2.fb (Fb.ext e11_3)
        have h0 := hB11_3
        refine L (D_storeA Tryz.sizeOf34 hB11_3 rfl rfl rfl rfl rfl (l' := ((mkSg (y) v b)).l) rfl (fun w11_4 k11_4 hB11_3 => ?_))
        have f11_4 := Fb.kp k11_4 (Nat.le_trans (Nat.le_refl _) lB11_3) (Blk.notB h0 rfl)
        replace hE := hE.kp k11_4 lB11_3
        replace hB1_1 := hB1_1.kp k11_4 nB1_1B11_3
        replace hB1_3 := hB1_3.kp k11_4 nB1_3B11_3
        replace k2_6 := k2_6.fb f11_4
        replace k7_3 := k7_3.fb f11_4
        replace k7_6 := k7_6.fb f11_4
        replace k11_2 := k11_2.fb f11_4
        refine S_nil ?_
        refine T_tn ?_
        refine wp_seq ?_
        refine W_draw mixed (by kernel_rfl) ?_
        refine Q_v (fun w hw => R_loadA (c := (k).l) Tryz.isAgg29 Tryz.sizeOf29 (hB1_1.ext hw) q9 rfl rfl) ?_
        refine Q_v (fun w hw => R_loadA (c := ((mkSg (y) v b)).l) Tryz.isAgg34 Tryz.sizeOf34 (hB11_3.ext hw) rfl rfl rfl) ?_
        refine Q_call (fun w hw => R_callF Tryz.call18 rfl rfl) (fun w hw => c75 (k) ((mkSg (y) v b)) _ ((k11_2.fb (Fb.ext hw)).up (Nat.le_trans (Nat.le_refl _) (hE.trans hw).size))) ?_
        refine Q_v (fun w hw => R_loadA (c := (k).l) Tryz.isAgg29 Tryz.sizeOf29 (hB1_1.ext hw) q9 rfl rfl) ?_
        refine Q_v (fun w hw => R_loadA (c := ((mkSg (y) v b)).l) Tryz.isAgg34 Tryz.sizeOf34 (hB11_3.ext hw) rfl rfl rfl) ?_
        refine Q_call (fun w hw => R_callF Tryz.call19 rfl rfl) (fun w hw => c116 (k) ((mkSg (y) v b)) _ ((k11_2.fb (Fb.ext hw)).up (Nat.le_trans (Nat.le_refl _) (hE.trans hw).size))) ?_
        refine Q_v (fun w hw => R_eqlB Tryz.underlying4 rfl rfl) ?_
        refine Q_v (fun w hw => R_move rfl) ?_
        refine Q_gc1 rfl rfl (fun hb w hw => R_callF Tryz.call20 rfl rfl) (fun hb w hw => c56 _) ?_
        refine Q_v (fun w hw => R_pickA rfl rfl rfl) ?_
        refine Q_v (fun w hw => R_assign rfl) ?_
        refine Q_nil (fun w12_99 e12_99 => ?_)
        replace hE := hE.trans e12_99
        replace hB1_1 := hB1_1.ext e12_99
        replace hB11_3 := hB11_3.ext e12_99
        replace k2_6 := k2_6.fb (Fb.ext e12_99)
        replace k7_3 := k7_3.fb (Fb.ext e12_99)
        replace k7_6 := k7_6.fb (Fb.ext e12_99)
        replace k11_2 := k11_2.fb (Fb.ext e12_99)
        refine T_tn ?_
        refine wp_ret ?_
        refine ret1 (v := .bool _) rfl rfl ⟨congrArg (fun b => Ending.returned (Value.bool b)) ?_, hE⟩
        simp
  ·
    refine wp_skip ?_
    refine T_tn ?_
    refine wp_seq ?_
    refine W_region ?_
    refine L (D_v (R_loadA (c := (y).l) Tryz.isAgg31 Tryz.sizeOf31 hB1_3 rfl rfl rfl) ?_)
    refine L (D_v (R_move rfl) ?_)
    have k5_2 : Sg.okf w.heap.size w3_3 (mkSg (y) v b) := mkSg_ok _ (Bf.old h hE (Nat.le_refl _))
    refine L (D_v (R_buildS (vs := [(0, .agg (y).l.toArray), (1, v)]) (c := (mkSg (y) v b).l) Tryz.runUnderlying34 places53 Tryz.zeroValue34 (mapp2 rfl rfl) (fill53 _ (h.ext hE))) ?_)
    refine L (D_alloc (c := (Sg.zero).l) Tryz.zeroValue34 rfl (fun aB5_3 w5_3 e5_3 gB5_3 hB5_3 => ?_))
    have lB5_3 := Nat.le_trans hE.size gB5_3
    have nB1_1B5_3 := hB1_1.ne gB5_3
    have nB1_3B5_3 := hB1_3.ne gB5_3
    replace hE := hE.trans e5_3
    replace hB1_1 := hB1_1.ext e5_3
    replace hB1_3 := hB1_3.ext e5_3
    replace o2_6 := o2_6.ext e5_3
    replace k2_6 := k2_6.fb (Fb.ext e5_3)
    replace k5_2 := k5_2.fb (Fb.ext e5_3)
    have xo2_6 := own_neB o2_6 hB5_3 rfl
    have h0 := hB5_3
    refine L (D_storeA Tryz.sizeOf34 hB5_3 rfl rfl rfl rfl rfl (l' := ((mkSg (y) v b)).l) rfl (fun w5_4 k5_4 hB5_3 => ?_))
    have f5_4 := Fb.kp k5_4 (Nat.le_trans (Nat.le_refl _) lB5_3) (Blk.notB h0 rfl)
    replace hE := hE.kp k5_4 lB5_3
    replace hB1_1 := hB1_1.kp k5_4 nB1_1B5_3
    replace hB1_3 := hB1_3.kp k5_4 nB1_3B5_3
    replace o2_6 := o2_6.kp k5_4 xo2_6
    replace k2_6 := k2_6.fb f5_4
    replace k5_2 := k5_2.fb f5_4
    refine S_nil ?_
    refine T_tn ?_
    refine wp_seq ?_
    refine W_draw mixed (by kernel_rfl) ?_
    refine Q_v (fun w hw => R_loadA (c := (k).l) Tryz.isAgg29 Tryz.sizeOf29 (hB1_1.ext hw) rfl rfl rfl) ?_
    refine Q_v (fun w hw => R_loadA (c := ((mkSg (y) v b)).l) Tryz.isAgg34 Tryz.sizeOf34 (hB5_3.ext hw) rfl rfl rfl) ?_
    refine Q_call (fun w hw => R_callF Tryz.call18 rfl rfl) (fun w hw => c75 (k) ((mkSg (y) v b)) _ ((k5_2.fb (Fb.ext hw)).up (Nat.le_trans (Nat.le_refl _) (hE.trans hw).size))) ?_
    refine Q_v (fun w hw => R_loadA (c := (k).l) Tryz.isAgg29 Tryz.sizeOf29 (hB1_1.ext hw) rfl rfl rfl) ?_
    refine Q_v (fun w hw => R_loadA (c := ((mkSg (y) v b)).l) Tryz.isAgg34 Tryz.sizeOf34 (hB5_3.ext hw) rfl rfl rfl) ?_
    refine Q_call (fun w hw => R_callF Tryz.call19 rfl rfl) (fun w hw => c116 (k) ((mkSg (y) v b)) _ ((k5_2.fb (Fb.ext hw)).up (Nat.le_trans (Nat.le_refl _) (hE.trans hw).size))) ?_
    refine Q_v (fun w hw => R_eqlB Tryz.underlying4 rfl rfl) ?_
    refine Q_v (fun w hw => R_move rfl) ?_
    refine Q_gc1 rfl rfl (fun hb w hw => R_callF Tryz.call20 rfl rfl) (fun hb w hw => c56 _) ?_
    refine Q_v (fun w hw => R_pickA rfl rfl rfl) ?_
    refine Q_v (fun w hw => R_assign rfl) ?_
    refine Q_nil (fun w6_99 e6_99 => ?_)
    replace hE := hE.trans e6_99
    replace hB1_1 := hB1_1.ext e6_99
    replace hB5_3 := hB5_3.ext e6_99
    replace o2_6 := o2_6.ext e6_99
    replace k2_6 := k2_6.fb (Fb.ext e6_99)
    replace k5_2 := k5_2.fb (Fb.ext e6_99)
    refine T_tn ?_
    refine wp_ret ?_
    refine ret1 (v := .bool _) rfl rfl ⟨congrArg (fun b => Ending.returned (Value.bool b)) ?_, hE⟩
    simp
end Go.Proofs.YteeopgpgbdhmhaaGreat
