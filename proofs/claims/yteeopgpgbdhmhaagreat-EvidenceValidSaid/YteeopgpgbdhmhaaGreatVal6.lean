/- What the law needs, part 6. No condition. -/
import Derived.Test.YteeopgpgbdhmhaaGreatVal5
namespace Go.Proofs.YteeopgpgbdhmhaaGreat
open Go.RowKit
set_option linter.unusedVariables false
set_option linter.unusedSimpArgs false
attribute [local irreducible] wpList wpO H wpQuiet wpStill Code.wp Exit.then Exit.inBlock bodyPost Code.rounds Calls valid sameKey conflict lessV hless num between
set_option maxRecDepth 4000 in
set_option maxHeartbeats 4000000 in
theorem c905 (vk : Value) (keys : List Nm) (x y : Sg) (w : World) (hk : Ls cN w.heap.size w vk keys) (hx : x.okf w.heap.size w) (hy : y.okf w.heap.size w) : Calls Tryz.prog 5 [vk, x.v, y.v].toArray w (Ret w (.bool true)) := by
  refine enter Tryz.func5 Tryz.ntmps5 rfl rfl ?_
  have hE := Ext.refl w
  refine wp_seq ?_
  refine W_region ?_
  refine L (D_box (c := (x).l) (rfl) (fun aB1_0 w1_0 e1_0 gB1_0 hB1_0 => ?_))
  have lB1_0 := Nat.le_trans hE.size gB1_0
  replace hE := hE.trans e1_0
  refine L (D_box (c := (y).l) (rfl) (fun aB1_1 w1_1 e1_1 gB1_1 hB1_1 => ?_))
  have lB1_1 := Nat.le_trans hE.size gB1_1
  have nB1_0B1_1 := hB1_0.ne gB1_1
  replace hE := hE.trans e1_1
  replace hB1_0 := hB1_0.ext e1_1
  refine L (D_v (R_assign rfl) ?_)
  refine S_nil ?_
  refine T_tn ?_
  refine wp_seq ?_
  refine W_cut (R := fun g W => ∃ (aB2_6 : Nat) (aB2_7 : Nat), (g 0 = vk) ∧ (g 7 = .pointer (some ⟨aB2_6, 0, none⟩)) ∧ (g 8 = .pointer (some ⟨aB2_7, 0, none⟩)) ∧ Ext w W ∧ Blk W aB1_0 ((x).l) 34 ∧ Blk W aB1_1 ((y).l) 34 ∧ Blk W aB2_6 (((⟨x, y⟩ : Ev)).l) 51 ∧ Blk W aB2_7 (((⟨y, x⟩ : Ev)).l) 51 ∧ w.heap.size ≤ aB2_6 ∧ w.heap.size ≤ aB2_7 ∧ aB1_0 ≠ aB2_6 ∧ aB1_1 ≠ aB2_6 ∧ aB1_0 ≠ aB2_7 ∧ aB1_1 ≠ aB2_7 ∧ aB2_6 ≠ aB2_7 ∧ Ev.okf w.heap.size W (⟨x, y⟩ : Ev) ∧ Ev.okf w.heap.size W (⟨y, x⟩ : Ev)) ?_ ?_
  ·
    refine W_held (fun W => Ext w W ∧ Blk W aB1_0 ((x).l) 34 ∧ Blk W aB1_1 ((y).l) 34 ∧ True) mixed (fun w2_99 e2_99 => ?_)
    replace hE := hE.trans e2_99
    replace hB1_0 := hB1_0.ext e2_99
    replace hB1_1 := hB1_1.ext e2_99
    refine H_take (i := 0) rfl (by kernel_rfl) (by kernel_rfl) (by kernel_rfl) rfl pq_cut ⟨hE, hB1_0, hB1_1, trivial⟩ rfl (fun w hw => R_loadA (c := (x).l) Tryz.isAgg34 Tryz.sizeOf34 hw.2.1 rfl rfl rfl) ?_
    refine H_take (i := 1) rfl (by kernel_rfl) (by kernel_rfl) (by kernel_rfl) rfl pq_cut ⟨hE, hB1_0, hB1_1, trivial⟩ rfl (fun w hw => R_loadA (c := (y).l) Tryz.isAgg34 Tryz.sizeOf34 hw.2.2.1 rfl rfl rfl) ?_
    have k2_2 : Ev.okf w.heap.size w2_99 (⟨x, y⟩ : Ev) := ⟨(hx.fb (Fb.ext hE)), (hy.fb (Fb.ext hE))⟩
    refine H_take (i := 2) rfl (by kernel_rfl) (by kernel_rfl) (by kernel_rfl) rfl pq_cut ⟨hE, hB1_0, hB1_1, trivial⟩ rfl (fun w hw => R_buildS (vs := [(0, .agg (x).l.toArray), (1, .agg (y).l.toArray)]) (c := (⟨x, y⟩ : Ev).l) Tryz.runUnderlying51 places55 Tryz.zeroValue51 (mapp2 rfl rfl) (fill55 _ _)) ?_
    refine H_take (i := 3) rfl (by kernel_rfl) (by kernel_rfl) (by kernel_rfl) rfl pq_cut ⟨hE, hB1_0, hB1_1, trivial⟩ rfl (fun w hw => R_loadA (c := (y).l) Tryz.isAgg34 Tryz.sizeOf34 hw.2.2.1 rfl rfl rfl) ?_
    refine H_take (i := 4) rfl (by kernel_rfl) (by kernel_rfl) (by kernel_rfl) rfl pq_cut ⟨hE, hB1_0, hB1_1, trivial⟩ rfl (fun w hw => R_loadA (c := (x).l) Tryz.isAgg34 Tryz.sizeOf34 hw.2.1 rfl rfl rfl) ?_
    have k2_5 : Ev.okf w.heap.size w2_99 (⟨y, x⟩ : Ev) := ⟨(hy.fb (Fb.ext hE)), (hx.fb (Fb.ext hE))⟩
    refine H_take (i := 5) rfl (by kernel_rfl) (by kernel_rfl) (by kernel_rfl) rfl pq_cut ⟨hE, hB1_0, hB1_1, trivial⟩ rfl (fun w hw => R_buildS (vs := [(0, .agg (y).l.toArray), (1, .agg (x).l.toArray)]) (c := (⟨y, x⟩ : Ev).l) Tryz.runUnderlying51 places55 Tryz.zeroValue51 (mapp2 rfl rfl) (fill55 _ _)) ?_
    refine H_op2 (i := 6) (i2 := 7) (by kernel_rfl) rfl rfl rfl rfl ?_ ?_
    ·
      refine D_alloc (c := (Ev.zero).l) Tryz.zeroValue51 rfl (fun aB2_6 w2_6 e2_6 gB2_6 hB2_6 => ?_)
      have lB2_6 := Nat.le_trans hE.size gB2_6
      have nB1_0B2_6 := hB1_0.ne gB2_6
      have nB1_1B2_6 := hB1_1.ne gB2_6
      replace hE := hE.trans e2_6
      replace hB1_0 := hB1_0.ext e2_6
      replace hB1_1 := hB1_1.ext e2_6
      replace k2_2 := k2_2.fb (Fb.ext e2_6)
      replace k2_5 := k2_5.fb (Fb.ext e2_6)
      refine ⟨⟨hE, hB1_0, hB1_1, trivial⟩, ?_⟩
      refine H_op (i := 7) (by kernel_rfl) rfl rfl (D_alloc (c := (Ev.zero).l) Tryz.zeroValue51 rfl (fun aB2_7 w2_7 e2_7 gB2_7 hB2_7 => ?_))
      have lB2_7 := Nat.le_trans hE.size gB2_7
      have nB1_0B2_7 := hB1_0.ne gB2_7
      have nB1_1B2_7 := hB1_1.ne gB2_7
      have nB2_6B2_7 := hB2_6.ne gB2_7
      replace hE := hE.trans e2_7
      replace hB1_0 := hB1_0.ext e2_7
      replace hB1_1 := hB1_1.ext e2_7
      replace hB2_6 := hB2_6.ext e2_7
      replace k2_2 := k2_2.fb (Fb.ext e2_7)
      replace k2_5 := k2_5.fb (Fb.ext e2_7)
      refine ⟨⟨hE, hB1_0, hB1_1, trivial⟩, ?_⟩
      have h0 := hB2_6
      refine H_op (i := 8) (by kernel_rfl) rfl rfl (D_storeA Tryz.sizeOf51 hB2_6 rfl rfl rfl rfl rfl (l' := ((⟨x, y⟩ : Ev)).l) rfl (fun w2_8 k2_8 hB2_6 => ?_))
      have f2_8 := Fb.kp k2_8 (Nat.le_trans (Nat.le_refl _) lB2_6) (Blk.notB h0 rfl)
      replace hE := hE.kp k2_8 lB2_6
      replace hB1_0 := hB1_0.kp k2_8 nB1_0B2_6
      replace hB1_1 := hB1_1.kp k2_8 nB1_1B2_6
      replace hB2_7 := hB2_7.kp k2_8 nB2_6B2_7.symm
      replace k2_2 := k2_2.fb f2_8
      replace k2_5 := k2_5.fb f2_8
      refine ⟨⟨hE, hB1_0, hB1_1, trivial⟩, ?_⟩
      have h0 := hB2_7
      refine H_op (i := 9) (by kernel_rfl) rfl rfl (D_storeA Tryz.sizeOf51 hB2_7 rfl rfl rfl rfl rfl (l' := ((⟨y, x⟩ : Ev)).l) rfl (fun w2_9 k2_9 hB2_7 => ?_))
      have f2_9 := Fb.kp k2_9 (Nat.le_trans (Nat.le_refl _) lB2_7) (Blk.notB h0 rfl)
      replace hE := hE.kp k2_9 lB2_7
      replace hB1_0 := hB1_0.kp k2_9 nB1_0B2_7
      replace hB1_1 := hB1_1.kp k2_9 nB1_1B2_7
      replace hB2_6 := hB2_6.kp k2_9 nB2_6B2_7
      replace k2_2 := k2_2.fb f2_9
      replace k2_5 := k2_5.fb f2_9
      refine ⟨⟨hE, hB1_0, hB1_1, trivial⟩, ?_⟩
      refine H_done (by kernel_rfl) ?_
      exact ⟨rfl, _, rfl, _, _, rfl, rfl, rfl, hE, hB1_0, hB1_1, hB2_6, hB2_7, lB2_6, lB2_7, nB1_0B2_6, nB1_1B2_6, nB1_0B2_7, nB1_1B2_7, nB2_6B2_7, k2_2, k2_5⟩
    ·
      refine D_alloc (c := (Ev.zero).l) Tryz.zeroValue51 rfl (fun aB2_7 w2_7 e2_7 gB2_7 hB2_7 => ?_)
      have lB2_7 := Nat.le_trans hE.size gB2_7
      have nB1_0B2_7 := hB1_0.ne gB2_7
      have nB1_1B2_7 := hB1_1.ne gB2_7
      replace hE := hE.trans e2_7
      replace hB1_0 := hB1_0.ext e2_7
      replace hB1_1 := hB1_1.ext e2_7
      replace k2_2 := k2_2.fb (Fb.ext e2_7)
      replace k2_5 := k2_5.fb (Fb.ext e2_7)
      refine ⟨⟨hE, hB1_0, hB1_1, trivial⟩, ?_⟩
      refine H_op (i := 6) (by kernel_rfl) rfl rfl (D_alloc (c := (Ev.zero).l) Tryz.zeroValue51 rfl (fun aB2_6 w2_6 e2_6 gB2_6 hB2_6 => ?_))
      have lB2_6 := Nat.le_trans hE.size gB2_6
      have nB1_0B2_6 := hB1_0.ne gB2_6
      have nB1_1B2_6 := hB1_1.ne gB2_6
      have nB2_7B2_6 := hB2_7.ne gB2_6
      replace hE := hE.trans e2_6
      replace hB1_0 := hB1_0.ext e2_6
      replace hB1_1 := hB1_1.ext e2_6
      replace hB2_7 := hB2_7.ext e2_6
      replace k2_2 := k2_2.fb (Fb.ext e2_6)
      replace k2_5 := k2_5.fb (Fb.ext e2_6)
      refine ⟨⟨hE, hB1_0, hB1_1, trivial⟩, ?_⟩
      have h0 := hB2_6
      refine H_op (i := 8) (by kernel_rfl) rfl rfl (D_storeA Tryz.sizeOf51 hB2_6 rfl rfl rfl rfl rfl (l' := ((⟨x, y⟩ : Ev)).l) rfl (fun w2_8 k2_8 hB2_6 => ?_))
      have f2_8 := Fb.kp k2_8 (Nat.le_trans (Nat.le_refl _) lB2_6) (Blk.notB h0 rfl)
      replace hE := hE.kp k2_8 lB2_6
      replace hB1_0 := hB1_0.kp k2_8 nB1_0B2_6
      replace hB1_1 := hB1_1.kp k2_8 nB1_1B2_6
      replace hB2_7 := hB2_7.kp k2_8 nB2_7B2_6
      replace k2_2 := k2_2.fb f2_8
      replace k2_5 := k2_5.fb f2_8
      refine ⟨⟨hE, hB1_0, hB1_1, trivial⟩, ?_⟩
      have h0 := hB2_7
      refine H_op (i := 9) (by kernel_rfl) rfl rfl (D_storeA Tryz.sizeOf51 hB2_7 rfl rfl rfl rfl rfl (l' := ((⟨y, x⟩ : Ev)).l) rfl (fun w2_9 k2_9 hB2_7 => ?_))
      have f2_9 := Fb.kp k2_9 (Nat.le_trans (Nat.le_refl _) lB2_7) (Blk.notB h0 rfl)
      replace hE := hE.kp k2_9 lB2_7
      replace hB1_0 := hB1_0.kp k2_9 nB1_0B2_7
      replace hB1_1 := hB1_1.kp k2_9 nB1_1B2_7
      replace hB2_6 := hB2_6.kp k2_9 nB2_7B2_6.symm
      replace k2_2 := k2_2.fb f2_9
      replace k2_5 := k2_5.fb f2_9
      refine ⟨⟨hE, hB1_0, hB1_1, trivial⟩, ?_⟩
      refine H_done (by kernel_rfl) ?_
      exact ⟨rfl, _, rfl, _, _, rfl, rfl, rfl, hE, hB1_0, hB1_1, hB2_6, hB2_7, lB2_6, lB2_7, nB1_0B2_6, nB1_1B2_6, nB1_0B2_7, nB1_1B2_7, nB2_7B2_6.symm, k2_2, k2_5⟩
  rintro f2 w2c ⟨aB2_6, aB2_7, q0, q7, q8, hE, hB1_0, hB1_1, hB2_6, hB2_7, lB2_6, lB2_7, nB1_0B2_6, nB1_1B2_6, nB1_0B2_7, nB1_1B2_7, nB2_6B2_7, k2_2, k2_5⟩
  refine T_tn ?_
  refine wp_seq ?_
  refine W_draw mixed (by kernel_rfl) ?_
  refine Q_v (fun w hw => R_move q0) ?_
  refine Q_v (fun w hw => R_loadA (c := ((⟨x, y⟩ : Ev)).l) Tryz.isAgg51 Tryz.sizeOf51 (hB2_6.ext hw) q7 rfl rfl) ?_
  refine Q_call (fun w hw => R_callF Tryz.call21 rfl rfl) (fun w hw => c76 vk (keys) ((⟨x, y⟩ : Ev)) _ ((hk.ext (hE.trans hw)).lev fun _ _ _ => trivial) ((k2_2.fb (Fb.ext hw)).up (Nat.le_trans (Nat.le_refl _) (hE.trans hw).size))) ?_
  refine Q_v (fun w hw => R_move q0) ?_
  refine Q_v (fun w hw => R_loadA (c := ((⟨x, y⟩ : Ev)).l) Tryz.isAgg51 Tryz.sizeOf51 (hB2_6.ext hw) q7 rfl rfl) ?_
  refine Q_call (fun w hw => R_callF Tryz.call22 rfl rfl) (fun w hw => c50 vk (keys) ((⟨x, y⟩ : Ev)) _ ((hk.ext (hE.trans hw)).lev fun _ _ _ => trivial) ((k2_2.fb (Fb.ext hw)).up (Nat.le_trans (Nat.le_refl _) (hE.trans hw).size))) ?_
  refine Q_v (fun w hw => R_eqlB Tryz.underlying4 rfl rfl) ?_
  refine Q_v (fun w hw => R_move rfl) ?_
  refine Q_g1 rfl rfl (fun hb w hw => R_move q0) ?_
  refine Q_g1 rfl rfl (fun hb w hw => R_loadA (c := ((⟨y, x⟩ : Ev)).l) Tryz.isAgg51 Tryz.sizeOf51 (hB2_7.ext hw) q8 rfl rfl) ?_
  refine Q_gc1 rfl rfl (fun hb w hw => R_callF Tryz.call21 (mapv2 (cgE hb) (cgE hb)) rfl) (fun hb w hw => c76 vk (keys) ((⟨y, x⟩ : Ev)) _ ((hk.ext (hE.trans hw)).lev fun _ _ _ => trivial) ((k2_5.fb (Fb.ext hw)).up (Nat.le_trans (Nat.le_refl _) (hE.trans hw).size))) ?_
  refine Q_g1 rfl rfl (fun hb w hw => R_move q0) ?_
  refine Q_g1 rfl rfl (fun hb w hw => R_loadA (c := ((⟨y, x⟩ : Ev)).l) Tryz.isAgg51 Tryz.sizeOf51 (hB2_7.ext hw) q8 rfl rfl) ?_
  refine Q_gc1 rfl rfl (fun hb w hw => R_callF Tryz.call22 (mapv2 (cgE hb) (cgE hb)) rfl) (fun hb w hw => c50 vk (keys) ((⟨y, x⟩ : Ev)) _ ((hk.ext (hE.trans hw)).lev fun _ _ _ => trivial) ((k2_5.fb (Fb.ext hw)).up (Nat.le_trans (Nat.le_refl _) (hE.trans hw).size))) ?_
  refine Q_g1 rfl rfl (fun hb w hw => R_eqlB Tryz.underlying4 (cgE hb) (cgE hb)) ?_
  refine Q_v (fun w hw => R_pickA rfl rfl rfl) ?_
  refine Q_v (fun w hw => R_move rfl) ?_
  refine Q_g1 rfl rfl (fun hb w hw => R_move q0) ?_
  refine Q_g1 rfl rfl (fun hb w hw => R_loadA (c := ((⟨x, y⟩ : Ev)).l) Tryz.isAgg51 Tryz.sizeOf51 (hB2_6.ext hw) q7 rfl rfl) ?_
  refine Q_gc1 rfl rfl (fun hb w hw => R_callF Tryz.call21 (mapv2 (cgE hb) (cgE hb)) rfl) (fun hb w hw => c76 vk (keys) ((⟨x, y⟩ : Ev)) _ ((hk.ext (hE.trans hw)).lev fun _ _ _ => trivial) ((k2_2.fb (Fb.ext hw)).up (Nat.le_trans (Nat.le_refl _) (hE.trans hw).size))) ?_
  refine Q_g1 rfl rfl (fun hb w hw => R_move (cgE hb)) ?_
  refine Q_g2 rfl rfl (fun hg hb w hw => R_move q0) ?_
  refine Q_g2 rfl rfl (fun hg hb w hw => R_loadA (c := ((⟨y, x⟩ : Ev)).l) Tryz.isAgg51 Tryz.sizeOf51 (hB2_7.ext hw) q8 rfl rfl) ?_
  refine Q_gc2 rfl rfl (fun hg hb w hw => R_callF Tryz.call21 (mapv2 (cgA hg hb) (cgA hg hb)) rfl) (fun hg hb w hw => c76 vk (keys) ((⟨y, x⟩ : Ev)) _ ((hk.ext (hE.trans hw)).lev fun _ _ _ => trivial) ((k2_5.fb (Fb.ext hw)).up (Nat.le_trans (Nat.le_refl _) (hE.trans hw).size))) ?_
  refine Q_g1 rfl rfl (fun hb w hw => R_pickA (cgE hb) (cgD hb) rfl) ?_
  refine Q_g1 rfl rfl (fun hb w hw => R_not (cgE hb)) ?_
  refine Q_v (fun w hw => R_pickA rfl rfl rfl) ?_
  refine Q_v (fun w hw => R_move rfl) ?_
  refine Q_gc1 rfl rfl (fun hb w hw => R_callF Tryz.call15 rfl rfl) (fun hb w hw => c74 _) ?_
  refine Q_v (fun w hw => R_pickA rfl rfl rfl) ?_
  refine Q_v (fun w hw => R_assign rfl) ?_
  refine Q_nil (fun w3_99 e3_99 => ?_)
  replace hE := hE.trans e3_99
  replace hB2_6 := hB2_6.ext e3_99
  replace hB2_7 := hB2_7.ext e3_99
  replace k2_2 := k2_2.fb (Fb.ext e3_99)
  replace k2_5 := k2_5.fb (Fb.ext e3_99)
  refine T_tn ?_
  refine wp_ret ?_
  refine ret1 (v := .bool _) rfl rfl ⟨congrArg (fun b => Ending.returned (Value.bool b)) ?_, hE⟩
  rw [beq_self_eq_true, beq_self_eq_true]; have hz : (validE keys (⟨x, y⟩ : Ev).p && validE keys (⟨y, x⟩ : Ev).p) = false := valid_anti keys x.p y.p; rw [hz]; rfl
theorem c905w (vk : Value) (keys : List Nm) (v1 : Value) (x : Sg) (v2 : Value) (y : Sg) (w : World) (hk : Ls cN w.heap.size w vk keys) (h1 : SgIn w v1 x) (h2 : SgIn w v2 y) : Calls Tryz.prog 5 [vk, v1, v2].toArray w (Ret w (.bool true)) := by
  obtain ⟨rfl, hx, _⟩ := h1
  obtain ⟨rfl, hy, _⟩ := h2
  exact c905 vk keys x y w hk hx hy
end Go.Proofs.YteeopgpgbdhmhaaGreat
