/- What the law needs, part 5. No condition. -/
import Derived.DataReads
import Derived.Deep.DeepAppendWide
import Derived.Maps.Keyed
import Derived.DeepKeys5
import Derived.Test.YteeopgpgbdhmhaaGreatFnd4
namespace Go.Proofs.YteeopgpgbdhmhaaGreat
open Go.RowKit
set_option linter.unusedVariables false
set_option linter.unusedSimpArgs false
attribute [local irreducible] wpList wpO H wpQuiet wpStill Code.wp Exit.then Exit.inBlock bodyPost Code.rounds Calls valid sameKey conflict lessV hless num between
set_option maxRecDepth 4000 in
set_option maxHeartbeats 1000000 in
theorem c168_2 (I : Int) (w : World) (hI : I = 2) : Calls Tryz.prog 71 [i64 I].toArray w (Ret w (i64 370)) := by
  refine enter Tryz.func71 Tryz.ntmps71 rfl rfl ?_
  have hE := Ext.refl w
  refine wp_seq ?_
  refine W_region ?_
  refine L (D_v (R_assign rfl) ?_)
  refine S_nil ?_
  refine T_tn ?_
  refine wp_seq ?_
  refine wp_seq ?_
  refine W_region ?_
  refine L (D_v (R_move rfl) ?_)
  refine L (D_v (R_lssI rfl rfl) ?_)
  refine L (D_v (R_move rfl) ?_)
  refine L (D_g1 rfl rfl (fun hb => R_move rfl) ?_)
  refine L (D_g1 rfl rfl (fun hb => R_gtrI (cgE hb) rfl) ?_)
  refine L (D_v (R_pickO rfl rfl rfl) ?_)
  refine S_nil ?_
  refine T_tn ?_
  refine W_if rfl (fun c1 => ?_) (fun c1 => ?_)
  ·
    exfalso; subst hI; simp at c1
  ·
    subst hI
    refine wp_skip ?_
    refine T_tn ?_
    refine wp_seq ?_
    refine W_region ?_
    refine L (D_v (R_move rfl) ?_)
    refine L (D_v (R_cast (v' := .int .i64 (368)) (R_mulI rfl rfl) rfl) ?_)
    refine L (D_v (R_cast (v' := .int .i64 (370)) (R_addI rfl rfl) rfl) ?_)
    refine L (D_v (R_assign rfl) ?_)
    refine S_nil ?_
    refine T_tn ?_
    refine wp_ret ?_
    refine ret1 (v := .int _ _) rfl rfl ⟨?_, hE⟩
    rfl
set_option maxRecDepth 4000 in
set_option maxHeartbeats 1000000 in
theorem c169_2  (w : World) : Calls Tryz.prog 72 [i64 2].toArray w (Ret w (i64 1024)) := by
  refine enter Tryz.func72 Tryz.ntmps72 rfl rfl ?_
  have hE := Ext.refl w
  refine wp_seq ?_
  refine W_region ?_
  refine L (D_v (R_assign rfl) ?_)
  refine S_nil ?_
  refine T_tn ?_
  refine wp_seq ?_
  refine wp_seq ?_
  refine W_region ?_
  refine L (D_v (R_move rfl) ?_)
  refine S_nil ?_
  refine T_tn ?_
  refine wp_block ?_
  refine wp_seq ?_
  refine W_region ?_
  refine L (D_v (R_cast (v' := .bool false) (R_eqlI rfl rfl) rfl) ?_)
  refine L (D_v (R_assign rfl) ?_)
  refine S_nil ?_
  refine T_tn ?_
  refine W_iff rfl ?_
  refine wp_seq ?_
  refine W_region ?_
  refine L (D_v (R_cast (v' := .bool true) (R_eqlI rfl rfl) rfl) ?_)
  refine L (D_v (R_assign rfl) ?_)
  refine S_nil ?_
  refine T_tn ?_
  refine W_ift rfl ?_
  refine wp_seq ?_
  refine W_region ?_
  refine L (D_v (R_assign rfl) ?_)
  refine S_nil ?_
  refine T_tn ?_
  refine wp_ret ?_
  refine T_br ?_
  refine T_tr ?_
  refine ret1 (v := .int _ _) rfl rfl ⟨?_, hE⟩
  rfl
set_option maxRecDepth 4000 in
set_option maxHeartbeats 4000000 in
theorem c139 (pub m : Nm) (v : Value) (b : List UInt8) (I : Int) (w : World) (hI : I = 2) (h : Bs w v b) : Calls Tryz.prog 41 [pub.v, i64 I, m.v, v].toArray w (Ret w (.bool (ver pub m b))) := by
  refine enter Tryz.func41 Tryz.ntmps41 rfl rfl ?_
  have hE := Ext.refl w
  have hbb := h.le
  refine wp_seq ?_
  refine W_region ?_
  refine L (D_box (c := (pub).l) (rfl) (fun aB1_0 w1_0 e1_0 gB1_0 hB1_0 => ?_))
  have lB1_0 := Nat.le_trans hE.size gB1_0
  replace hE := hE.trans e1_0
  refine L (D_box (c := (m).l) (rfl) (fun aB1_1 w1_1 e1_1 gB1_1 hB1_1 => ?_))
  have lB1_1 := Nat.le_trans hE.size gB1_1
  have nB1_0B1_1 := hB1_0.ne gB1_1
  replace hE := hE.trans e1_1
  replace hB1_0 := hB1_0.ext e1_1
  refine L (D_v (R_assign rfl) ?_)
  refine S_nil ?_
  refine T_tn ?_
  refine wp_seq ?_
  refine wp_seq ?_
  refine W_region ?_
  refine L (D_v (R_move rfl) ?_)
  refine L (D_v (R_lssI rfl rfl) ?_)
  refine L (D_v (R_move rfl) ?_)
  refine L (D_g1 rfl rfl (fun hb => R_move rfl) ?_)
  refine L (D_g1 rfl rfl (fun hb => R_gtrI (cgE hb) rfl) ?_)
  refine L (D_v (R_pickO rfl rfl rfl) ?_)
  refine L (D_v (R_move rfl) ?_)
  refine L (D_g1 rfl rfl (fun hb => R_move rfl) ?_)
  refine L (D_g1 rfl rfl (fun hb => R_len Tryz.underlying32 (cgE hb) (h.ext hE)) ?_)
  refine L (D_g1 rfl rfl (fun hb => R_move rfl) ?_)
  refine L (D_gc1 rfl rfl (fun hb => R_callF Tryz.call71 (mapv1 (cgE hb)) rfl) (fun hb => c168_2 _ _ hI) (fun w2_10 e2_10 => ?_))
  replace hE := hE.trans e2_10
  replace hB1_0 := hB1_0.ext e2_10
  replace hB1_1 := hB1_1.ext e2_10
  refine L (D_g1 rfl rfl (fun hb => R_neqI (cgE hb) (cgE hb)) ?_)
  refine L (D_v (R_pickO rfl rfl rfl) ?_)
  refine S_nil ?_
  refine T_tn ?_
  refine W_if rfl (fun c1 => ?_) (fun c1 => ?_)
  ·
    subst hI
    have hv : ¬ b.length = 370 := by simp at c1; omega
    refine wp_seq ?_
    refine W_region ?_
    refine L (D_v (R_assign rfl) ?_)
    refine S_nil ?_
    refine T_tn ?_
    refine wp_ret ?_
    refine T_tr ?_
    refine ret1 (v := .bool _) rfl rfl ⟨congrArg (fun b => Ending.returned (Value.bool b)) ?_, hE⟩
    unfold ver; rw [decide_eq_false hv]; rfl
  ·
    subst hI
    have hv : b.length = 370 := by simp at c1; omega
    refine wp_skip ?_
    refine T_tn ?_
    refine wp_seq ?_
    refine W_draw mixed (by kernel_rfl) ?_
    refine Q_v (fun w hw => R_move rfl) ?_
    refine Q_v (fun w hw => R_elAddr (i := 0) Tryz.underlying32 Tryz.sizeOf5 rfl rfl (h.ext (hE.trans hw)) (by (try simp only [List.length_take, List.length_drop, List.length_append, List.length_cons, List.length_nil, List.length_replicate, List.length_set, Nm.b_len, be2_len]); omega)) ?_
    refine Q_v (fun w hw => R_loadEl (u := u8 (((b).getD 0 0))) Tryz.isAgg5 rfl (h.ext (hE.trans hw)) (bl_get (by (try simp only [List.length_take, List.length_drop, List.length_append, List.length_cons, List.length_nil, List.length_replicate, List.length_set, Nm.b_len, be2_len]); omega))) ?_
    refine Q_v (fun w hw => R_convU (b := ((b).getD 0 0)) Tryz.runUnderlying3 (by decide) rfl) ?_
    refine Q_v (fun w hw => R_shlC (z := 8) rfl rfl (by decide) (by decide)) ?_
    refine Q_v (fun w hw => R_move rfl) ?_
    refine Q_v (fun w hw => R_elAddr (i := 1) Tryz.underlying32 Tryz.sizeOf5 rfl rfl (h.ext (hE.trans hw)) (by (try simp only [List.length_take, List.length_drop, List.length_append, List.length_cons, List.length_nil, List.length_replicate, List.length_set, Nm.b_len, be2_len]); omega)) ?_
    refine Q_v (fun w hw => R_loadEl (u := u8 (((b).getD 1 0))) Tryz.isAgg5 rfl (h.ext (hE.trans hw)) (bl_get (by (try simp only [List.length_take, List.length_drop, List.length_append, List.length_cons, List.length_nil, List.length_replicate, List.length_set, Nm.b_len, be2_len]); omega))) ?_
    refine Q_v (fun w hw => R_convU (b := ((b).getD 1 0)) Tryz.runUnderlying3 (by decide) rfl) ?_
    refine Q_v (fun w hw => R_or8 (a := ((b).getD 0 0)) (b := ((b).getD 1 0)) rfl rfl) ?_
    refine Q_v (fun w hw => R_assign rfl) ?_
    refine Q_nil (fun w3_99 e3_99 => ?_)
    replace hE := hE.trans e3_99
    replace hB1_0 := hB1_0.ext e3_99
    replace hB1_1 := hB1_1.ext e3_99
    refine T_tn ?_
    refine wp_seq ?_
    refine wp_seq ?_
    refine W_region ?_
    refine L (D_v (R_move rfl) ?_)
    refine L (D_v (R_move rfl) ?_)
    refine L (D_call (R_callF Tryz.call72 rfl rfl) (c169_2 _) (fun w4_2 e4_2 => ?_))
    replace hE := hE.trans e4_2
    replace hB1_0 := hB1_0.ext e4_2
    replace hB1_1 := hB1_1.ext e4_2
    refine L (D_v (R_geqI rfl rfl) ?_)
    refine S_nil ?_
    refine T_tn ?_
    refine W_if rfl (fun c2 => ?_) (fun c2 => ?_)
    ·
      have hw : ¬ leafNo b < 1024 := by have h1 := of_decide_eq_true c2; unfold leafNo; omega
      refine wp_seq ?_
      refine W_region ?_
      refine L (D_v (R_assign rfl) ?_)
      refine S_nil ?_
      refine T_tn ?_
      refine wp_ret ?_
      refine T_tr ?_
      refine ret1 (v := .bool _) rfl rfl ⟨congrArg (fun b => Ending.returned (Value.bool b)) ?_, hE⟩
      unfold ver; rw [decide_eq_true hv, decide_eq_false hw]; rfl
    ·
      have hw : leafNo b < 1024 := by have h1 := of_decide_eq_false c2; unfold leafNo; omega
      have hw2 : leafNo b = (b.getD 0 0).toNat * 256 + (b.getD 1 0).toNat := rfl
      refine wp_skip ?_
      refine T_tn ?_
      refine wp_seq ?_
      refine W_cut (R := fun g W => ∃ (v5_2 : Value) (aB5_7 : Nat), (g 1 = i64 (2)) ∧ (g 3 = v) ∧ (g 4 = .pointer (some ⟨aB1_0, 0, none⟩)) ∧ (g 9 = i64 (((((b).getD 0 0).toNat * 256 + ((b).getD 1 0).toNat) : Nat) : Int)) ∧ (g 10 = .pointer (some ⟨aB5_7, 0, none⟩)) ∧ Ext w W ∧ Blk W aB1_0 (pub).l 29 ∧ Blk W aB1_1 (m).l 29 ∧ Blk W aB5_7 ((recN m ((nmsAt (b) (2) (18))))).l 29 ∧ w.heap.size ≤ aB5_7 ∧ aB1_0 ≠ aB5_7 ∧ aB1_1 ≠ aB5_7 ∧ Value.ownBlock v5_2 ≠ some aB1_0 ∧ Value.ownBlock v5_2 ≠ some aB1_1 ∧ Value.ownBlock v5_2 ≠ some aB5_7) ?_ ?_
      ·
        refine W_held (fun W => Ext w W ∧ Blk W aB1_0 (pub).l 29 ∧ Blk W aB1_1 (m).l 29 ∧ True) mixed (fun w5_99 e5_99 => ?_)
        replace hE := hE.trans e5_99
        replace hB1_0 := hB1_0.ext e5_99
        replace hB1_1 := hB1_1.ext e5_99
        refine H_take (i := 0) rfl (by kernel_rfl) (by kernel_rfl) (by kernel_rfl) rfl pq_cut ⟨hE, hB1_0, hB1_1, trivial⟩ rfl (fun w hw => R_loadA (c := (m).l) Tryz.isAgg29 Tryz.sizeOf29 hw.2.2.1 rfl rfl rfl) ?_
        refine H_take (i := 1) rfl (by kernel_rfl) (by kernel_rfl) (by kernel_rfl) rfl pq_cut ⟨hE, hB1_0, hB1_1, trivial⟩ rfl (fun w hw => R_move rfl) ?_
        refine H_op2 (i := 2) (i2 := 7) (by kernel_rfl) rfl rfl rfl rfl ?_ ?_
        ·
          refine D_callE (R_callF Tryz.call74 rfl rfl) (c171 v (b) (2) (18) _ (h.ext hE) (by omega) (by omega) (by omega)) (fun v5_2 w5_2 e5_2 p5_2 => ?_)
          have o5_2 := p5_2
          have yv5_2_B1_0 : Value.ownBlock v5_2 ≠ some aB1_0 := fun hk => absurd (own_ge o5_2.1 hk) (Nat.not_le.2 hB1_0.lt)
          have yv5_2_B1_1 : Value.ownBlock v5_2 ≠ some aB1_1 := fun hk => absurd (own_ge o5_2.1 hk) (Nat.not_le.2 hB1_1.lt)
          replace o5_2 := o5_2.low hE.size
          replace o5_2 := Ow.lev (lo' := w.heap.size) o5_2 (fun _ _ _ => trivial)
          replace hE := hE.trans e5_2
          replace hB1_0 := hB1_0.ext e5_2
          replace hB1_1 := hB1_1.ext e5_2
          refine ⟨⟨hE, hB1_0, hB1_1, trivial⟩, ?_⟩
          refine H_op2 (i := 3) (i2 := 7) (by kernel_rfl) rfl rfl rfl rfl ?_ ?_
          ·
            refine D_call (R_callF Tryz.call73 rfl rfl) (c170 (m) v5_2 ((nmsAt (b) (2) (18))) _ (by first | rfl | omega | exact nmsAt_len _ _ _) (o5_2.ls.lev fun _ _ _ => trivial)) (fun w5_3 e5_3 => ?_)
            replace hE := hE.trans e5_3
            replace hB1_0 := hB1_0.ext e5_3
            replace hB1_1 := hB1_1.ext e5_3
            replace o5_2 := o5_2.ext e5_3
            refine ⟨⟨hE, hB1_0, hB1_1, trivial⟩, ?_⟩
            refine H_take (i := 4) rfl (by kernel_rfl) (by kernel_rfl) (by kernel_rfl) rfl pq_cut ⟨hE, hB1_0, hB1_1, trivial⟩ rfl (fun w hw => R_move rfl) ?_
            refine H_take (i := 5) rfl (by kernel_rfl) (by kernel_rfl) (by kernel_rfl) rfl pq_cut ⟨hE, hB1_0, hB1_1, trivial⟩ rfl (fun w hw => R_extract rfl rfl) ?_
            refine H_take (i := 6) rfl (by kernel_rfl) (by kernel_rfl) (by kernel_rfl) rfl pq_cut ⟨hE, hB1_0, hB1_1, trivial⟩ rfl (fun w hw => R_extract rfl rfl) ?_
            refine H_op (i := 7) (by kernel_rfl) rfl rfl (D_alloc (c := (Nm.zero).l) Tryz.zeroValue29 rfl (fun aB5_7 w5_7 e5_7 gB5_7 hB5_7 => ?_))
            have lB5_7 := Nat.le_trans hE.size gB5_7
            have nB1_0B5_7 := hB1_0.ne gB5_7
            have nB1_1B5_7 := hB1_1.ne gB5_7
            have yv5_2_B5_7 : Value.ownBlock v5_2 ≠ some aB5_7 := fun hk => absurd (own_lt o5_2.1 hk) (Nat.not_lt.2 gB5_7)
            replace hE := hE.trans e5_7
            replace hB1_0 := hB1_0.ext e5_7
            replace hB1_1 := hB1_1.ext e5_7
            replace o5_2 := o5_2.ext e5_7
            refine ⟨⟨hE, hB1_0, hB1_1, trivial⟩, ?_⟩
            have xo5_2 := yv5_2_B5_7
            have h0 := hB5_7
            refine H_op (i := 8) (by kernel_rfl) rfl rfl (D_storeA Tryz.sizeOf29 hB5_7 rfl rfl rfl rfl rfl (l' := ((recN m ((nmsAt (b) (2) (18))))).l) rfl (fun w5_8 k5_8 hB5_7 => ?_))
            have f5_8 := Fb.kp k5_8 (Nat.le_trans (Nat.le_refl _) lB5_7) (Blk.notB h0 rfl)
            replace hE := hE.kp k5_8 lB5_7
            replace hB1_0 := hB1_0.kp k5_8 nB1_0B5_7
            replace hB1_1 := hB1_1.kp k5_8 nB1_1B5_7
            replace o5_2 := o5_2.kp k5_8 xo5_2 f5_8
            refine ⟨⟨hE, hB1_0, hB1_1, trivial⟩, ?_⟩
            refine H_take (i := 9) rfl (by kernel_rfl) (by kernel_rfl) (by kernel_rfl) rfl pq_cut ⟨hE, hB1_0, hB1_1, trivial⟩ rfl (fun w hw => R_assign rfl) ?_
            refine H_done (by kernel_rfl) ?_
            exact ⟨rfl, _, rfl, _, _, rfl, rfl, rfl, rfl, rfl, hE, hB1_0, hB1_1, hB5_7, lB5_7, nB1_0B5_7, nB1_1B5_7, yv5_2_B1_0, yv5_2_B1_1, yv5_2_B5_7⟩
          ·
            refine D_alloc (c := (Nm.zero).l) Tryz.zeroValue29 rfl (fun aB5_7 w5_7 e5_7 gB5_7 hB5_7 => ?_)
            have lB5_7 := Nat.le_trans hE.size gB5_7
            have nB1_0B5_7 := hB1_0.ne gB5_7
            have nB1_1B5_7 := hB1_1.ne gB5_7
            have yv5_2_B5_7 : Value.ownBlock v5_2 ≠ some aB5_7 := fun hk => absurd (own_lt o5_2.1 hk) (Nat.not_lt.2 gB5_7)
            replace hE := hE.trans e5_7
            replace hB1_0 := hB1_0.ext e5_7
            replace hB1_1 := hB1_1.ext e5_7
            replace o5_2 := o5_2.ext e5_7
            refine ⟨⟨hE, hB1_0, hB1_1, trivial⟩, ?_⟩
            refine H_op (i := 3) (by kernel_rfl) rfl rfl (D_call (R_callF Tryz.call73 rfl rfl) (c170 (m) v5_2 ((nmsAt (b) (2) (18))) _ (by first | rfl | omega | exact nmsAt_len _ _ _) (o5_2.ls.lev fun _ _ _ => trivial)) (fun w5_3 e5_3 => ?_))
            replace hE := hE.trans e5_3
            replace hB1_0 := hB1_0.ext e5_3
            replace hB1_1 := hB1_1.ext e5_3
            replace hB5_7 := hB5_7.ext e5_3
            replace o5_2 := o5_2.ext e5_3
            refine ⟨⟨hE, hB1_0, hB1_1, trivial⟩, ?_⟩
            refine H_take (i := 4) rfl (by kernel_rfl) (by kernel_rfl) (by kernel_rfl) rfl pq_cut ⟨hE, hB1_0, hB1_1, trivial⟩ rfl (fun w hw => R_move rfl) ?_
            refine H_take (i := 5) rfl (by kernel_rfl) (by kernel_rfl) (by kernel_rfl) rfl pq_cut ⟨hE, hB1_0, hB1_1, trivial⟩ rfl (fun w hw => R_extract rfl rfl) ?_
            refine H_take (i := 6) rfl (by kernel_rfl) (by kernel_rfl) (by kernel_rfl) rfl pq_cut ⟨hE, hB1_0, hB1_1, trivial⟩ rfl (fun w hw => R_extract rfl rfl) ?_
            have xo5_2 := yv5_2_B5_7
            have h0 := hB5_7
            refine H_op (i := 8) (by kernel_rfl) rfl rfl (D_storeA Tryz.sizeOf29 hB5_7 rfl rfl rfl rfl rfl (l' := ((recN m ((nmsAt (b) (2) (18))))).l) rfl (fun w5_8 k5_8 hB5_7 => ?_))
            have f5_8 := Fb.kp k5_8 (Nat.le_trans (Nat.le_refl _) lB5_7) (Blk.notB h0 rfl)
            replace hE := hE.kp k5_8 lB5_7
            replace hB1_0 := hB1_0.kp k5_8 nB1_0B5_7
            replace hB1_1 := hB1_1.kp k5_8 nB1_1B5_7
            replace o5_2 := o5_2.kp k5_8 xo5_2 f5_8
            refine ⟨⟨hE, hB1_0, hB1_1, trivial⟩, ?_⟩
            refine H_take (i := 9) rfl (by kernel_rfl) (by kernel_rfl) (by kernel_rfl) rfl pq_cut ⟨hE, hB1_0, hB1_1, trivial⟩ rfl (fun w hw => R_assign rfl) ?_
            refine H_done (by kernel_rfl) ?_
            exact ⟨rfl, _, rfl, _, _, rfl, rfl, rfl, rfl, rfl, hE, hB1_0, hB1_1, hB5_7, lB5_7, nB1_0B5_7, nB1_1B5_7, yv5_2_B1_0, yv5_2_B1_1, yv5_2_B5_7⟩
        ·
          refine D_alloc (c := (Nm.zero).l) Tryz.zeroValue29 rfl (fun aB5_7 w5_7 e5_7 gB5_7 hB5_7 => ?_)
          have lB5_7 := Nat.le_trans hE.size gB5_7
          have nB1_0B5_7 := hB1_0.ne gB5_7
          have nB1_1B5_7 := hB1_1.ne gB5_7
          replace hE := hE.trans e5_7
          replace hB1_0 := hB1_0.ext e5_7
          replace hB1_1 := hB1_1.ext e5_7
          refine ⟨⟨hE, hB1_0, hB1_1, trivial⟩, ?_⟩
          refine H_op (i := 2) (by kernel_rfl) rfl rfl (D_callE (R_callF Tryz.call74 rfl rfl) (c171 v (b) (2) (18) _ (h.ext hE) (by omega) (by omega) (by omega)) (fun v5_2 w5_2 e5_2 p5_2 => ?_))
          have o5_2 := p5_2
          have yv5_2_B1_0 : Value.ownBlock v5_2 ≠ some aB1_0 := fun hk => absurd (own_ge o5_2.1 hk) (Nat.not_le.2 hB1_0.lt)
          have yv5_2_B1_1 : Value.ownBlock v5_2 ≠ some aB1_1 := fun hk => absurd (own_ge o5_2.1 hk) (Nat.not_le.2 hB1_1.lt)
          have yv5_2_B5_7 : Value.ownBlock v5_2 ≠ some aB5_7 := fun hk => absurd (own_ge o5_2.1 hk) (Nat.not_le.2 hB5_7.lt)
          replace o5_2 := o5_2.low hE.size
          replace o5_2 := Ow.lev (lo' := w.heap.size) o5_2 (fun _ _ _ => trivial)
          replace hE := hE.trans e5_2
          replace hB1_0 := hB1_0.ext e5_2
          replace hB1_1 := hB1_1.ext e5_2
          replace hB5_7 := hB5_7.ext e5_2
          refine ⟨⟨hE, hB1_0, hB1_1, trivial⟩, ?_⟩
          refine H_op (i := 3) (by kernel_rfl) rfl rfl (D_call (R_callF Tryz.call73 rfl rfl) (c170 (m) v5_2 ((nmsAt (b) (2) (18))) _ (by first | rfl | omega | exact nmsAt_len _ _ _) (o5_2.ls.lev fun _ _ _ => trivial)) (fun w5_3 e5_3 => ?_))
          replace hE := hE.trans e5_3
          replace hB1_0 := hB1_0.ext e5_3
          replace hB1_1 := hB1_1.ext e5_3
          replace hB5_7 := hB5_7.ext e5_3
          replace o5_2 := o5_2.ext e5_3
          refine ⟨⟨hE, hB1_0, hB1_1, trivial⟩, ?_⟩
          refine H_take (i := 4) rfl (by kernel_rfl) (by kernel_rfl) (by kernel_rfl) rfl pq_cut ⟨hE, hB1_0, hB1_1, trivial⟩ rfl (fun w hw => R_move rfl) ?_
          refine H_take (i := 5) rfl (by kernel_rfl) (by kernel_rfl) (by kernel_rfl) rfl pq_cut ⟨hE, hB1_0, hB1_1, trivial⟩ rfl (fun w hw => R_extract rfl rfl) ?_
          refine H_take (i := 6) rfl (by kernel_rfl) (by kernel_rfl) (by kernel_rfl) rfl pq_cut ⟨hE, hB1_0, hB1_1, trivial⟩ rfl (fun w hw => R_extract rfl rfl) ?_
          have xo5_2 := yv5_2_B5_7
          have h0 := hB5_7
          refine H_op (i := 8) (by kernel_rfl) rfl rfl (D_storeA Tryz.sizeOf29 hB5_7 rfl rfl rfl rfl rfl (l' := ((recN m ((nmsAt (b) (2) (18))))).l) rfl (fun w5_8 k5_8 hB5_7 => ?_))
          have f5_8 := Fb.kp k5_8 (Nat.le_trans (Nat.le_refl _) lB5_7) (Blk.notB h0 rfl)
          replace hE := hE.kp k5_8 lB5_7
          replace hB1_0 := hB1_0.kp k5_8 nB1_0B5_7
          replace hB1_1 := hB1_1.kp k5_8 nB1_1B5_7
          replace o5_2 := o5_2.kp k5_8 xo5_2 f5_8
          refine ⟨⟨hE, hB1_0, hB1_1, trivial⟩, ?_⟩
          refine H_take (i := 9) rfl (by kernel_rfl) (by kernel_rfl) (by kernel_rfl) rfl pq_cut ⟨hE, hB1_0, hB1_1, trivial⟩ rfl (fun w hw => R_assign rfl) ?_
          refine H_done (by kernel_rfl) ?_
          exact ⟨rfl, _, rfl, _, _, rfl, rfl, rfl, rfl, rfl, hE, hB1_0, hB1_1, hB5_7, lB5_7, nB1_0B5_7, nB1_1B5_7, yv5_2_B1_0, yv5_2_B1_1, yv5_2_B5_7⟩
      rintro f5 w5c ⟨v5_2, aB5_7, q1, q3, q4, q9, q10, hE, hB1_0, hB1_1, hB5_7, lB5_7, nB1_0B5_7, nB1_1B5_7, yv5_2_B1_0, yv5_2_B1_1, yv5_2_B5_7⟩
      refine T_tn ?_
      refine wp_seq ?_
      refine W_cut (R := fun g W => ∃ (v6_4 : Value) (aB6_9 : Nat), (g 1 = i64 (2)) ∧ (g 3 = v) ∧ (g 4 = .pointer (some ⟨aB1_0, 0, none⟩)) ∧ (g 9 = i64 (((((b).getD 0 0).toNat * 256 + ((b).getD 1 0).toNat) : Nat) : Int)) ∧ (g 12 = .pointer (some ⟨aB6_9, 0, none⟩)) ∧ Ext w W ∧ Blk W aB1_0 (pub).l 29 ∧ Blk W aB5_7 ((recN m ((nmsAt (b) (2) (18))))).l 29 ∧ Blk W aB6_9 ((cmp (32) (recN m ((nmsAt (b) (2) (18)))) (((((b).getD 0 0).toNat * 256 + ((b).getD 1 0).toNat) % 32)) (32) ((nmsAt (b) (146) (5))))).l 29 ∧ w.heap.size ≤ aB6_9 ∧ aB1_0 ≠ aB6_9 ∧ aB5_7 ≠ aB6_9 ∧ Value.ownBlock v6_4 ≠ some aB1_0 ∧ Value.ownBlock v6_4 ≠ some aB5_7 ∧ Value.ownBlock v6_4 ≠ some aB6_9) ?_ ?_
      ·
        refine W_held (fun W => Ext w W ∧ Blk W aB1_0 (pub).l 29 ∧ Blk W aB5_7 ((recN m ((nmsAt (b) (2) (18))))).l 29 ∧ True) mixed (fun w6_99 e6_99 => ?_)
        replace hE := hE.trans e6_99
        replace hB1_0 := hB1_0.ext e6_99
        replace hB5_7 := hB5_7.ext e6_99
        refine H_take (i := 0) rfl (by kernel_rfl) (by kernel_rfl) (by kernel_rfl) rfl pq_cut ⟨hE, hB1_0, hB5_7, trivial⟩ rfl (fun w hw => R_loadA (c := ((recN m ((nmsAt (b) (2) (18))))).l) Tryz.isAgg29 Tryz.sizeOf29 hw.2.2.1 q10 rfl rfl) ?_
        refine H_take (i := 1) rfl (by kernel_rfl) (by kernel_rfl) (by kernel_rfl) rfl pq_cut ⟨hE, hB1_0, hB5_7, trivial⟩ rfl (fun w hw => R_move q9) ?_
        refine H_take (i := 2) rfl (by kernel_rfl) (by kernel_rfl) (by kernel_rfl) rfl pq_cut ⟨hE, hB1_0, hB5_7, trivial⟩ rfl (fun w hw => R_remN (m := (((b).getD 0 0).toNat * 256 + ((b).getD 1 0).toNat)) (j := 32) rfl rfl (by decide) (by (try simp only [List.length_take, List.length_drop, List.length_append, List.length_cons, List.length_nil, List.length_replicate, List.length_set, Nm.b_len, be2_len]); omega)) ?_
        refine H_take (i := 3) rfl (by kernel_rfl) (by kernel_rfl) (by kernel_rfl) rfl pq_cut ⟨hE, hB1_0, hB5_7, trivial⟩ rfl (fun w hw => R_move q3) ?_
        refine H_op2 (i := 4) (i2 := 9) (by kernel_rfl) rfl rfl rfl rfl ?_ ?_
        ·
          refine D_callE (R_callF Tryz.call74 rfl rfl) (c171 v (b) (146) (5) _ (h.ext hE) (by omega) (by omega) (by omega)) (fun v6_4 w6_4 e6_4 p6_4 => ?_)
          have o6_4 := p6_4
          have yv6_4_B1_0 : Value.ownBlock v6_4 ≠ some aB1_0 := fun hk => absurd (own_ge o6_4.1 hk) (Nat.not_le.2 hB1_0.lt)
          have yv6_4_B5_7 : Value.ownBlock v6_4 ≠ some aB5_7 := fun hk => absurd (own_ge o6_4.1 hk) (Nat.not_le.2 hB5_7.lt)
          replace o6_4 := o6_4.low hE.size
          replace o6_4 := Ow.lev (lo' := w.heap.size) o6_4 (fun _ _ _ => trivial)
          replace hE := hE.trans e6_4
          replace hB1_0 := hB1_0.ext e6_4
          replace hB5_7 := hB5_7.ext e6_4
          refine ⟨⟨hE, hB1_0, hB5_7, trivial⟩, ?_⟩
          refine H_op2 (i := 5) (i2 := 9) (by kernel_rfl) rfl rfl rfl rfl ?_ ?_
          ·
            refine D_call (R_callF Tryz.call75 rfl rfl) (c172s ((recN m ((nmsAt (b) (2) (18))))) (((((b).getD 0 0).toNat * 256 + ((b).getD 1 0).toNat) % 32)) (32) v6_4 ((nmsAt (b) (146) (5))) _ _ rfl (by omega) (by omega) (by rw [nmsAt_len, dep32 _ (by omega)]) (o6_4.ls.lev fun _ _ _ => trivial)) (fun w6_5 e6_5 => ?_)
            replace hE := hE.trans e6_5
            replace hB1_0 := hB1_0.ext e6_5
            replace hB5_7 := hB5_7.ext e6_5
            replace o6_4 := o6_4.ext e6_5
            refine ⟨⟨hE, hB1_0, hB5_7, trivial⟩, ?_⟩
            refine H_take (i := 6) rfl (by kernel_rfl) (by kernel_rfl) (by kernel_rfl) rfl pq_cut ⟨hE, hB1_0, hB5_7, trivial⟩ rfl (fun w hw => R_move rfl) ?_
            refine H_take (i := 7) rfl (by kernel_rfl) (by kernel_rfl) (by kernel_rfl) rfl pq_cut ⟨hE, hB1_0, hB5_7, trivial⟩ rfl (fun w hw => R_extract rfl rfl) ?_
            refine H_take (i := 8) rfl (by kernel_rfl) (by kernel_rfl) (by kernel_rfl) rfl pq_cut ⟨hE, hB1_0, hB5_7, trivial⟩ rfl (fun w hw => R_extract rfl rfl) ?_
            refine H_op (i := 9) (by kernel_rfl) rfl rfl (D_alloc (c := (Nm.zero).l) Tryz.zeroValue29 rfl (fun aB6_9 w6_9 e6_9 gB6_9 hB6_9 => ?_))
            have lB6_9 := Nat.le_trans hE.size gB6_9
            have nB1_0B6_9 := hB1_0.ne gB6_9
            have nB5_7B6_9 := hB5_7.ne gB6_9
            have yv6_4_B6_9 : Value.ownBlock v6_4 ≠ some aB6_9 := fun hk => absurd (own_lt o6_4.1 hk) (Nat.not_lt.2 gB6_9)
            replace hE := hE.trans e6_9
            replace hB1_0 := hB1_0.ext e6_9
            replace hB5_7 := hB5_7.ext e6_9
            replace o6_4 := o6_4.ext e6_9
            refine ⟨⟨hE, hB1_0, hB5_7, trivial⟩, ?_⟩
            have xo6_4 := yv6_4_B6_9
            have h0 := hB6_9
            refine H_op (i := 10) (by kernel_rfl) rfl rfl (D_storeA Tryz.sizeOf29 hB6_9 rfl rfl rfl rfl rfl (l' := ((cmp (32) (recN m ((nmsAt (b) (2) (18)))) (((((b).getD 0 0).toNat * 256 + ((b).getD 1 0).toNat) % 32)) (32) ((nmsAt (b) (146) (5))))).l) rfl (fun w6_10 k6_10 hB6_9 => ?_))
            have f6_10 := Fb.kp k6_10 (Nat.le_trans (Nat.le_refl _) lB6_9) (Blk.notB h0 rfl)
            replace hE := hE.kp k6_10 lB6_9
            replace hB1_0 := hB1_0.kp k6_10 nB1_0B6_9
            replace hB5_7 := hB5_7.kp k6_10 nB5_7B6_9
            replace o6_4 := o6_4.kp k6_10 xo6_4 f6_10
            refine ⟨⟨hE, hB1_0, hB5_7, trivial⟩, ?_⟩
            refine H_take (i := 11) rfl (by kernel_rfl) (by kernel_rfl) (by kernel_rfl) rfl pq_cut ⟨hE, hB1_0, hB5_7, trivial⟩ rfl (fun w hw => R_assign rfl) ?_
            refine H_done (by kernel_rfl) ?_
            exact ⟨rfl, _, rfl, _, _, q1, q3, q4, q9, rfl, hE, hB1_0, hB5_7, hB6_9, lB6_9, nB1_0B6_9, nB5_7B6_9, yv6_4_B1_0, yv6_4_B5_7, yv6_4_B6_9⟩
          ·
            refine D_alloc (c := (Nm.zero).l) Tryz.zeroValue29 rfl (fun aB6_9 w6_9 e6_9 gB6_9 hB6_9 => ?_)
            have lB6_9 := Nat.le_trans hE.size gB6_9
            have nB1_0B6_9 := hB1_0.ne gB6_9
            have nB5_7B6_9 := hB5_7.ne gB6_9
            have yv6_4_B6_9 : Value.ownBlock v6_4 ≠ some aB6_9 := fun hk => absurd (own_lt o6_4.1 hk) (Nat.not_lt.2 gB6_9)
            replace hE := hE.trans e6_9
            replace hB1_0 := hB1_0.ext e6_9
            replace hB5_7 := hB5_7.ext e6_9
            replace o6_4 := o6_4.ext e6_9
            refine ⟨⟨hE, hB1_0, hB5_7, trivial⟩, ?_⟩
            refine H_op (i := 5) (by kernel_rfl) rfl rfl (D_call (R_callF Tryz.call75 rfl rfl) (c172s ((recN m ((nmsAt (b) (2) (18))))) (((((b).getD 0 0).toNat * 256 + ((b).getD 1 0).toNat) % 32)) (32) v6_4 ((nmsAt (b) (146) (5))) _ _ rfl (by omega) (by omega) (by rw [nmsAt_len, dep32 _ (by omega)]) (o6_4.ls.lev fun _ _ _ => trivial)) (fun w6_5 e6_5 => ?_))
            replace hE := hE.trans e6_5
            replace hB1_0 := hB1_0.ext e6_5
            replace hB5_7 := hB5_7.ext e6_5
            replace hB6_9 := hB6_9.ext e6_5
            replace o6_4 := o6_4.ext e6_5
            refine ⟨⟨hE, hB1_0, hB5_7, trivial⟩, ?_⟩
            refine H_take (i := 6) rfl (by kernel_rfl) (by kernel_rfl) (by kernel_rfl) rfl pq_cut ⟨hE, hB1_0, hB5_7, trivial⟩ rfl (fun w hw => R_move rfl) ?_
            refine H_take (i := 7) rfl (by kernel_rfl) (by kernel_rfl) (by kernel_rfl) rfl pq_cut ⟨hE, hB1_0, hB5_7, trivial⟩ rfl (fun w hw => R_extract rfl rfl) ?_
            refine H_take (i := 8) rfl (by kernel_rfl) (by kernel_rfl) (by kernel_rfl) rfl pq_cut ⟨hE, hB1_0, hB5_7, trivial⟩ rfl (fun w hw => R_extract rfl rfl) ?_
            have xo6_4 := yv6_4_B6_9
            have h0 := hB6_9
            refine H_op (i := 10) (by kernel_rfl) rfl rfl (D_storeA Tryz.sizeOf29 hB6_9 rfl rfl rfl rfl rfl (l' := ((cmp (32) (recN m ((nmsAt (b) (2) (18)))) (((((b).getD 0 0).toNat * 256 + ((b).getD 1 0).toNat) % 32)) (32) ((nmsAt (b) (146) (5))))).l) rfl (fun w6_10 k6_10 hB6_9 => ?_))
            have f6_10 := Fb.kp k6_10 (Nat.le_trans (Nat.le_refl _) lB6_9) (Blk.notB h0 rfl)
            replace hE := hE.kp k6_10 lB6_9
            replace hB1_0 := hB1_0.kp k6_10 nB1_0B6_9
            replace hB5_7 := hB5_7.kp k6_10 nB5_7B6_9
            replace o6_4 := o6_4.kp k6_10 xo6_4 f6_10
            refine ⟨⟨hE, hB1_0, hB5_7, trivial⟩, ?_⟩
            refine H_take (i := 11) rfl (by kernel_rfl) (by kernel_rfl) (by kernel_rfl) rfl pq_cut ⟨hE, hB1_0, hB5_7, trivial⟩ rfl (fun w hw => R_assign rfl) ?_
            refine H_done (by kernel_rfl) ?_
            exact ⟨rfl, _, rfl, _, _, q1, q3, q4, q9, rfl, hE, hB1_0, hB5_7, hB6_9, lB6_9, nB1_0B6_9, nB5_7B6_9, yv6_4_B1_0, yv6_4_B5_7, yv6_4_B6_9⟩
        ·
          refine D_alloc (c := (Nm.zero).l) Tryz.zeroValue29 rfl (fun aB6_9 w6_9 e6_9 gB6_9 hB6_9 => ?_)
          have lB6_9 := Nat.le_trans hE.size gB6_9
          have nB1_0B6_9 := hB1_0.ne gB6_9
          have nB5_7B6_9 := hB5_7.ne gB6_9
          replace hE := hE.trans e6_9
          replace hB1_0 := hB1_0.ext e6_9
          replace hB5_7 := hB5_7.ext e6_9
          refine ⟨⟨hE, hB1_0, hB5_7, trivial⟩, ?_⟩
          refine H_op (i := 4) (by kernel_rfl) rfl rfl (D_callE (R_callF Tryz.call74 rfl rfl) (c171 v (b) (146) (5) _ (h.ext hE) (by omega) (by omega) (by omega)) (fun v6_4 w6_4 e6_4 p6_4 => ?_))
          have o6_4 := p6_4
          have yv6_4_B1_0 : Value.ownBlock v6_4 ≠ some aB1_0 := fun hk => absurd (own_ge o6_4.1 hk) (Nat.not_le.2 hB1_0.lt)
          have yv6_4_B5_7 : Value.ownBlock v6_4 ≠ some aB5_7 := fun hk => absurd (own_ge o6_4.1 hk) (Nat.not_le.2 hB5_7.lt)
          have yv6_4_B6_9 : Value.ownBlock v6_4 ≠ some aB6_9 := fun hk => absurd (own_ge o6_4.1 hk) (Nat.not_le.2 hB6_9.lt)
          replace o6_4 := o6_4.low hE.size
          replace o6_4 := Ow.lev (lo' := w.heap.size) o6_4 (fun _ _ _ => trivial)
          replace hE := hE.trans e6_4
          replace hB1_0 := hB1_0.ext e6_4
          replace hB5_7 := hB5_7.ext e6_4
          replace hB6_9 := hB6_9.ext e6_4
          refine ⟨⟨hE, hB1_0, hB5_7, trivial⟩, ?_⟩
          refine H_op (i := 5) (by kernel_rfl) rfl rfl (D_call (R_callF Tryz.call75 rfl rfl) (c172s ((recN m ((nmsAt (b) (2) (18))))) (((((b).getD 0 0).toNat * 256 + ((b).getD 1 0).toNat) % 32)) (32) v6_4 ((nmsAt (b) (146) (5))) _ _ rfl (by omega) (by omega) (by rw [nmsAt_len, dep32 _ (by omega)]) (o6_4.ls.lev fun _ _ _ => trivial)) (fun w6_5 e6_5 => ?_))
          replace hE := hE.trans e6_5
          replace hB1_0 := hB1_0.ext e6_5
          replace hB5_7 := hB5_7.ext e6_5
          replace hB6_9 := hB6_9.ext e6_5
          replace o6_4 := o6_4.ext e6_5
          refine ⟨⟨hE, hB1_0, hB5_7, trivial⟩, ?_⟩
          refine H_take (i := 6) rfl (by kernel_rfl) (by kernel_rfl) (by kernel_rfl) rfl pq_cut ⟨hE, hB1_0, hB5_7, trivial⟩ rfl (fun w hw => R_move rfl) ?_
          refine H_take (i := 7) rfl (by kernel_rfl) (by kernel_rfl) (by kernel_rfl) rfl pq_cut ⟨hE, hB1_0, hB5_7, trivial⟩ rfl (fun w hw => R_extract rfl rfl) ?_
          refine H_take (i := 8) rfl (by kernel_rfl) (by kernel_rfl) (by kernel_rfl) rfl pq_cut ⟨hE, hB1_0, hB5_7, trivial⟩ rfl (fun w hw => R_extract rfl rfl) ?_
          have xo6_4 := yv6_4_B6_9
          have h0 := hB6_9
          refine H_op (i := 10) (by kernel_rfl) rfl rfl (D_storeA Tryz.sizeOf29 hB6_9 rfl rfl rfl rfl rfl (l' := ((cmp (32) (recN m ((nmsAt (b) (2) (18)))) (((((b).getD 0 0).toNat * 256 + ((b).getD 1 0).toNat) % 32)) (32) ((nmsAt (b) (146) (5))))).l) rfl (fun w6_10 k6_10 hB6_9 => ?_))
          have f6_10 := Fb.kp k6_10 (Nat.le_trans (Nat.le_refl _) lB6_9) (Blk.notB h0 rfl)
          replace hE := hE.kp k6_10 lB6_9
          replace hB1_0 := hB1_0.kp k6_10 nB1_0B6_9
          replace hB5_7 := hB5_7.kp k6_10 nB5_7B6_9
          replace o6_4 := o6_4.kp k6_10 xo6_4 f6_10
          refine ⟨⟨hE, hB1_0, hB5_7, trivial⟩, ?_⟩
          refine H_take (i := 11) rfl (by kernel_rfl) (by kernel_rfl) (by kernel_rfl) rfl pq_cut ⟨hE, hB1_0, hB5_7, trivial⟩ rfl (fun w hw => R_assign rfl) ?_
          refine H_done (by kernel_rfl) ?_
          exact ⟨rfl, _, rfl, _, _, q1, q3, q4, q9, rfl, hE, hB1_0, hB5_7, hB6_9, lB6_9, nB1_0B6_9, nB5_7B6_9, yv6_4_B1_0, yv6_4_B5_7, yv6_4_B6_9⟩
      rintro f6 w6c ⟨v6_4, aB6_9, q1, q3, q4, q9, q12, hE, hB1_0, hB5_7, hB6_9, lB6_9, nB1_0B6_9, nB5_7B6_9, yv6_4_B1_0, yv6_4_B5_7, yv6_4_B6_9⟩
      refine T_tn ?_
      refine wp_seq ?_
      refine wp_seq ?_
      refine W_region ?_
      refine L (D_v (R_move q1) ?_)
      refine L (D_v (R_cast (v' := .bool false) (R_eqlI rfl rfl) rfl) ?_)
      refine S_nil ?_
      refine T_tn ?_
      refine W_iff rfl ?_
      refine wp_skip ?_
      refine T_tn ?_
      refine wp_seq ?_
      refine W_cut (R := fun g W => ∃ (v8_2 : Value) (aB8_7 : Nat), (g 3 = v) ∧ (g 4 = .pointer (some ⟨aB1_0, 0, none⟩)) ∧ (g 9 = i64 (((((b).getD 0 0).toNat * 256 + ((b).getD 1 0).toNat) : Nat) : Int)) ∧ (g 14 = .pointer (some ⟨aB8_7, 0, none⟩)) ∧ Ext w W ∧ Blk W aB1_0 (pub).l 29 ∧ Blk W aB6_9 ((cmp (32) (recN m ((nmsAt (b) (2) (18)))) (((((b).getD 0 0).toNat * 256 + ((b).getD 1 0).toNat) % 32)) (32) ((nmsAt (b) (146) (5))))).l 29 ∧ Blk W aB8_7 ((recN (cmp (32) (recN m ((nmsAt (b) (2) (18)))) (((((b).getD 0 0).toNat * 256 + ((b).getD 1 0).toNat) % 32)) (32) ((nmsAt (b) (146) (5)))) ((nmsAt (b) (186) (18))))).l 29 ∧ w.heap.size ≤ aB8_7 ∧ aB1_0 ≠ aB8_7 ∧ aB6_9 ≠ aB8_7 ∧ Value.ownBlock v8_2 ≠ some aB1_0 ∧ Value.ownBlock v8_2 ≠ some aB6_9 ∧ Value.ownBlock v8_2 ≠ some aB8_7) ?_ ?_
      ·
        refine W_held (fun W => Ext w W ∧ Blk W aB1_0 (pub).l 29 ∧ Blk W aB6_9 ((cmp (32) (recN m ((nmsAt (b) (2) (18)))) (((((b).getD 0 0).toNat * 256 + ((b).getD 1 0).toNat) % 32)) (32) ((nmsAt (b) (146) (5))))).l 29 ∧ True) mixed (fun w8_99 e8_99 => ?_)
        replace hE := hE.trans e8_99
        replace hB1_0 := hB1_0.ext e8_99
        replace hB6_9 := hB6_9.ext e8_99
        refine H_take (i := 0) rfl (by kernel_rfl) (by kernel_rfl) (by kernel_rfl) rfl pq_cut ⟨hE, hB1_0, hB6_9, trivial⟩ rfl (fun w hw => R_loadA (c := ((cmp (32) (recN m ((nmsAt (b) (2) (18)))) (((((b).getD 0 0).toNat * 256 + ((b).getD 1 0).toNat) % 32)) (32) ((nmsAt (b) (146) (5))))).l) Tryz.isAgg29 Tryz.sizeOf29 hw.2.2.1 q12 rfl rfl) ?_
        refine H_take (i := 1) rfl (by kernel_rfl) (by kernel_rfl) (by kernel_rfl) rfl pq_cut ⟨hE, hB1_0, hB6_9, trivial⟩ rfl (fun w hw => R_move q3) ?_
        refine H_op2 (i := 2) (i2 := 7) (by kernel_rfl) rfl rfl rfl rfl ?_ ?_
        ·
          refine D_callE (R_callF Tryz.call74 rfl rfl) (c171 v (b) (186) (18) _ (h.ext hE) (by omega) (by omega) (by omega)) (fun v8_2 w8_2 e8_2 p8_2 => ?_)
          have o8_2 := p8_2
          have yv8_2_B1_0 : Value.ownBlock v8_2 ≠ some aB1_0 := fun hk => absurd (own_ge o8_2.1 hk) (Nat.not_le.2 hB1_0.lt)
          have yv8_2_B6_9 : Value.ownBlock v8_2 ≠ some aB6_9 := fun hk => absurd (own_ge o8_2.1 hk) (Nat.not_le.2 hB6_9.lt)
          replace o8_2 := o8_2.low hE.size
          replace o8_2 := Ow.lev (lo' := w.heap.size) o8_2 (fun _ _ _ => trivial)
          replace hE := hE.trans e8_2
          replace hB1_0 := hB1_0.ext e8_2
          replace hB6_9 := hB6_9.ext e8_2
          refine ⟨⟨hE, hB1_0, hB6_9, trivial⟩, ?_⟩
          refine H_op2 (i := 3) (i2 := 7) (by kernel_rfl) rfl rfl rfl rfl ?_ ?_
          ·
            refine D_call (R_callF Tryz.call73 rfl rfl) (c170 ((cmp (32) (recN m ((nmsAt (b) (2) (18)))) (((((b).getD 0 0).toNat * 256 + ((b).getD 1 0).toNat) % 32)) (32) ((nmsAt (b) (146) (5))))) v8_2 ((nmsAt (b) (186) (18))) _ (by first | rfl | omega | exact nmsAt_len _ _ _) (o8_2.ls.lev fun _ _ _ => trivial)) (fun w8_3 e8_3 => ?_)
            replace hE := hE.trans e8_3
            replace hB1_0 := hB1_0.ext e8_3
            replace hB6_9 := hB6_9.ext e8_3
            replace o8_2 := o8_2.ext e8_3
            refine ⟨⟨hE, hB1_0, hB6_9, trivial⟩, ?_⟩
            refine H_take (i := 4) rfl (by kernel_rfl) (by kernel_rfl) (by kernel_rfl) rfl pq_cut ⟨hE, hB1_0, hB6_9, trivial⟩ rfl (fun w hw => R_move rfl) ?_
            refine H_take (i := 5) rfl (by kernel_rfl) (by kernel_rfl) (by kernel_rfl) rfl pq_cut ⟨hE, hB1_0, hB6_9, trivial⟩ rfl (fun w hw => R_extract rfl rfl) ?_
            refine H_take (i := 6) rfl (by kernel_rfl) (by kernel_rfl) (by kernel_rfl) rfl pq_cut ⟨hE, hB1_0, hB6_9, trivial⟩ rfl (fun w hw => R_extract rfl rfl) ?_
            refine H_op (i := 7) (by kernel_rfl) rfl rfl (D_alloc (c := (Nm.zero).l) Tryz.zeroValue29 rfl (fun aB8_7 w8_7 e8_7 gB8_7 hB8_7 => ?_))
            have lB8_7 := Nat.le_trans hE.size gB8_7
            have nB1_0B8_7 := hB1_0.ne gB8_7
            have nB6_9B8_7 := hB6_9.ne gB8_7
            have yv8_2_B8_7 : Value.ownBlock v8_2 ≠ some aB8_7 := fun hk => absurd (own_lt o8_2.1 hk) (Nat.not_lt.2 gB8_7)
            replace hE := hE.trans e8_7
            replace hB1_0 := hB1_0.ext e8_7
            replace hB6_9 := hB6_9.ext e8_7
            replace o8_2 := o8_2.ext e8_7
            refine ⟨⟨hE, hB1_0, hB6_9, trivial⟩, ?_⟩
            have xo8_2 := yv8_2_B8_7
            have h0 := hB8_7
            refine H_op (i := 8) (by kernel_rfl) rfl rfl (D_storeA Tryz.sizeOf29 hB8_7 rfl rfl rfl rfl rfl (l' := ((recN (cmp (32) (recN m ((nmsAt (b) (2) (18)))) (((((b).getD 0 0).toNat * 256 + ((b).getD 1 0).toNat) % 32)) (32) ((nmsAt (b) (146) (5)))) ((nmsAt (b) (186) (18))))).l) rfl (fun w8_8 k8_8 hB8_7 => ?_))
            have f8_8 := Fb.kp k8_8 (Nat.le_trans (Nat.le_refl _) lB8_7) (Blk.notB h0 rfl)
            replace hE := hE.kp k8_8 lB8_7
            replace hB1_0 := hB1_0.kp k8_8 nB1_0B8_7
            replace hB6_9 := hB6_9.kp k8_8 nB6_9B8_7
            replace o8_2 := o8_2.kp k8_8 xo8_2 f8_8
            refine ⟨⟨hE, hB1_0, hB6_9, trivial⟩, ?_⟩
            refine H_take (i := 9) rfl (by kernel_rfl) (by kernel_rfl) (by kernel_rfl) rfl pq_cut ⟨hE, hB1_0, hB6_9, trivial⟩ rfl (fun w hw => R_assign rfl) ?_
            refine H_done (by kernel_rfl) ?_
            exact ⟨rfl, _, rfl, _, _, q3, q4, q9, rfl, hE, hB1_0, hB6_9, hB8_7, lB8_7, nB1_0B8_7, nB6_9B8_7, yv8_2_B1_0, yv8_2_B6_9, yv8_2_B8_7⟩
          ·
            refine D_alloc (c := (Nm.zero).l) Tryz.zeroValue29 rfl (fun aB8_7 w8_7 e8_7 gB8_7 hB8_7 => ?_)
            have lB8_7 := Nat.le_trans hE.size gB8_7
            have nB1_0B8_7 := hB1_0.ne gB8_7
            have nB6_9B8_7 := hB6_9.ne gB8_7
            have yv8_2_B8_7 : Value.ownBlock v8_2 ≠ some aB8_7 := fun hk => absurd (own_lt o8_2.1 hk) (Nat.not_lt.2 gB8_7)
            replace hE := hE.trans e8_7
            replace hB1_0 := hB1_0.ext e8_7
            replace hB6_9 := hB6_9.ext e8_7
            replace o8_2 := o8_2.ext e8_7
            refine ⟨⟨hE, hB1_0, hB6_9, trivial⟩, ?_⟩
            refine H_op (i := 3) (by kernel_rfl) rfl rfl (D_call (R_callF Tryz.call73 rfl rfl) (c170 ((cmp (32) (recN m ((nmsAt (b) (2) (18)))) (((((b).getD 0 0).toNat * 256 + ((b).getD 1 0).toNat) % 32)) (32) ((nmsAt (b) (146) (5))))) v8_2 ((nmsAt (b) (186) (18))) _ (by first | rfl | omega | exact nmsAt_len _ _ _) (o8_2.ls.lev fun _ _ _ => trivial)) (fun w8_3 e8_3 => ?_))
            replace hE := hE.trans e8_3
            replace hB1_0 := hB1_0.ext e8_3
            replace hB6_9 := hB6_9.ext e8_3
            replace hB8_7 := hB8_7.ext e8_3
            replace o8_2 := o8_2.ext e8_3
            refine ⟨⟨hE, hB1_0, hB6_9, trivial⟩, ?_⟩
            refine H_take (i := 4) rfl (by kernel_rfl) (by kernel_rfl) (by kernel_rfl) rfl pq_cut ⟨hE, hB1_0, hB6_9, trivial⟩ rfl (fun w hw => R_move rfl) ?_
            refine H_take (i := 5) rfl (by kernel_rfl) (by kernel_rfl) (by kernel_rfl) rfl pq_cut ⟨hE, hB1_0, hB6_9, trivial⟩ rfl (fun w hw => R_extract rfl rfl) ?_
            refine H_take (i := 6) rfl (by kernel_rfl) (by kernel_rfl) (by kernel_rfl) rfl pq_cut ⟨hE, hB1_0, hB6_9, trivial⟩ rfl (fun w hw => R_extract rfl rfl) ?_
            have xo8_2 := yv8_2_B8_7
            have h0 := hB8_7
            refine H_op (i := 8) (by kernel_rfl) rfl rfl (D_storeA Tryz.sizeOf29 hB8_7 rfl rfl rfl rfl rfl (l' := ((recN (cmp (32) (recN m ((nmsAt (b) (2) (18)))) (((((b).getD 0 0).toNat * 256 + ((b).getD 1 0).toNat) % 32)) (32) ((nmsAt (b) (146) (5)))) ((nmsAt (b) (186) (18))))).l) rfl (fun w8_8 k8_8 hB8_7 => ?_))
            have f8_8 := Fb.kp k8_8 (Nat.le_trans (Nat.le_refl _) lB8_7) (Blk.notB h0 rfl)
            replace hE := hE.kp k8_8 lB8_7
            replace hB1_0 := hB1_0.kp k8_8 nB1_0B8_7
            replace hB6_9 := hB6_9.kp k8_8 nB6_9B8_7
            replace o8_2 := o8_2.kp k8_8 xo8_2 f8_8
            refine ⟨⟨hE, hB1_0, hB6_9, trivial⟩, ?_⟩
            refine H_take (i := 9) rfl (by kernel_rfl) (by kernel_rfl) (by kernel_rfl) rfl pq_cut ⟨hE, hB1_0, hB6_9, trivial⟩ rfl (fun w hw => R_assign rfl) ?_
            refine H_done (by kernel_rfl) ?_
            exact ⟨rfl, _, rfl, _, _, q3, q4, q9, rfl, hE, hB1_0, hB6_9, hB8_7, lB8_7, nB1_0B8_7, nB6_9B8_7, yv8_2_B1_0, yv8_2_B6_9, yv8_2_B8_7⟩
        ·
          refine D_alloc (c := (Nm.zero).l) Tryz.zeroValue29 rfl (fun aB8_7 w8_7 e8_7 gB8_7 hB8_7 => ?_)
          have lB8_7 := Nat.le_trans hE.size gB8_7
          have nB1_0B8_7 := hB1_0.ne gB8_7
          have nB6_9B8_7 := hB6_9.ne gB8_7
          replace hE := hE.trans e8_7
          replace hB1_0 := hB1_0.ext e8_7
          replace hB6_9 := hB6_9.ext e8_7
          refine ⟨⟨hE, hB1_0, hB6_9, trivial⟩, ?_⟩
          refine H_op (i := 2) (by kernel_rfl) rfl rfl (D_callE (R_callF Tryz.call74 rfl rfl) (c171 v (b) (186) (18) _ (h.ext hE) (by omega) (by omega) (by omega)) (fun v8_2 w8_2 e8_2 p8_2 => ?_))
          have o8_2 := p8_2
          have yv8_2_B1_0 : Value.ownBlock v8_2 ≠ some aB1_0 := fun hk => absurd (own_ge o8_2.1 hk) (Nat.not_le.2 hB1_0.lt)
          have yv8_2_B6_9 : Value.ownBlock v8_2 ≠ some aB6_9 := fun hk => absurd (own_ge o8_2.1 hk) (Nat.not_le.2 hB6_9.lt)
          have yv8_2_B8_7 : Value.ownBlock v8_2 ≠ some aB8_7 := fun hk => absurd (own_ge o8_2.1 hk) (Nat.not_le.2 hB8_7.lt)
          replace o8_2 := o8_2.low hE.size
          replace o8_2 := Ow.lev (lo' := w.heap.size) o8_2 (fun _ _ _ => trivial)
          replace hE := hE.trans e8_2
          replace hB1_0 := hB1_0.ext e8_2
          replace hB6_9 := hB6_9.ext e8_2
          replace hB8_7 := hB8_7.ext e8_2
          refine ⟨⟨hE, hB1_0, hB6_9, trivial⟩, ?_⟩
          refine H_op (i := 3) (by kernel_rfl) rfl rfl (D_call (R_callF Tryz.call73 rfl rfl) (c170 ((cmp (32) (recN m ((nmsAt (b) (2) (18)))) (((((b).getD 0 0).toNat * 256 + ((b).getD 1 0).toNat) % 32)) (32) ((nmsAt (b) (146) (5))))) v8_2 ((nmsAt (b) (186) (18))) _ (by first | rfl | omega | exact nmsAt_len _ _ _) (o8_2.ls.lev fun _ _ _ => trivial)) (fun w8_3 e8_3 => ?_))
          replace hE := hE.trans e8_3
          replace hB1_0 := hB1_0.ext e8_3
          replace hB6_9 := hB6_9.ext e8_3
          replace hB8_7 := hB8_7.ext e8_3
          replace o8_2 := o8_2.ext e8_3
          refine ⟨⟨hE, hB1_0, hB6_9, trivial⟩, ?_⟩
          refine H_take (i := 4) rfl (by kernel_rfl) (by kernel_rfl) (by kernel_rfl) rfl pq_cut ⟨hE, hB1_0, hB6_9, trivial⟩ rfl (fun w hw => R_move rfl) ?_
          refine H_take (i := 5) rfl (by kernel_rfl) (by kernel_rfl) (by kernel_rfl) rfl pq_cut ⟨hE, hB1_0, hB6_9, trivial⟩ rfl (fun w hw => R_extract rfl rfl) ?_
          refine H_take (i := 6) rfl (by kernel_rfl) (by kernel_rfl) (by kernel_rfl) rfl pq_cut ⟨hE, hB1_0, hB6_9, trivial⟩ rfl (fun w hw => R_extract rfl rfl) ?_
          have xo8_2 := yv8_2_B8_7
          have h0 := hB8_7
          refine H_op (i := 8) (by kernel_rfl) rfl rfl (D_storeA Tryz.sizeOf29 hB8_7 rfl rfl rfl rfl rfl (l' := ((recN (cmp (32) (recN m ((nmsAt (b) (2) (18)))) (((((b).getD 0 0).toNat * 256 + ((b).getD 1 0).toNat) % 32)) (32) ((nmsAt (b) (146) (5)))) ((nmsAt (b) (186) (18))))).l) rfl (fun w8_8 k8_8 hB8_7 => ?_))
          have f8_8 := Fb.kp k8_8 (Nat.le_trans (Nat.le_refl _) lB8_7) (Blk.notB h0 rfl)
          replace hE := hE.kp k8_8 lB8_7
          replace hB1_0 := hB1_0.kp k8_8 nB1_0B8_7
          replace hB6_9 := hB6_9.kp k8_8 nB6_9B8_7
          replace o8_2 := o8_2.kp k8_8 xo8_2 f8_8
          refine ⟨⟨hE, hB1_0, hB6_9, trivial⟩, ?_⟩
          refine H_take (i := 9) rfl (by kernel_rfl) (by kernel_rfl) (by kernel_rfl) rfl pq_cut ⟨hE, hB1_0, hB6_9, trivial⟩ rfl (fun w hw => R_assign rfl) ?_
          refine H_done (by kernel_rfl) ?_
          exact ⟨rfl, _, rfl, _, _, q3, q4, q9, rfl, hE, hB1_0, hB6_9, hB8_7, lB8_7, nB1_0B8_7, nB6_9B8_7, yv8_2_B1_0, yv8_2_B6_9, yv8_2_B8_7⟩
      rintro f8 w8c ⟨v8_2, aB8_7, q3, q4, q9, q14, hE, hB1_0, hB6_9, hB8_7, lB8_7, nB1_0B8_7, nB6_9B8_7, yv8_2_B1_0, yv8_2_B6_9, yv8_2_B8_7⟩
      refine T_tn ?_
      refine wp_seq ?_
      refine W_cut (R := fun g W => ∃ (v9_4 : Value) (aB9_9 : Nat), (g 4 = .pointer (some ⟨aB1_0, 0, none⟩)) ∧ (g 16 = .pointer (some ⟨aB9_9, 0, none⟩)) ∧ Ext w W ∧ Blk W aB1_0 (pub).l 29 ∧ Blk W aB8_7 ((recN (cmp (32) (recN m ((nmsAt (b) (2) (18)))) (((((b).getD 0 0).toNat * 256 + ((b).getD 1 0).toNat) % 32)) (32) ((nmsAt (b) (146) (5)))) ((nmsAt (b) (186) (18))))).l 29 ∧ Blk W aB9_9 ((cmp (32) (recN (cmp (32) (recN m ((nmsAt (b) (2) (18)))) (((((b).getD 0 0).toNat * 256 + ((b).getD 1 0).toNat) % 32)) (32) ((nmsAt (b) (146) (5)))) ((nmsAt (b) (186) (18)))) (((((b).getD 0 0).toNat * 256 + ((b).getD 1 0).toNat) / 32)) (32) ((nmsAt (b) (330) (5))))).l 29 ∧ w.heap.size ≤ aB9_9 ∧ aB1_0 ≠ aB9_9 ∧ aB8_7 ≠ aB9_9 ∧ Value.ownBlock v9_4 ≠ some aB1_0 ∧ Value.ownBlock v9_4 ≠ some aB8_7 ∧ Value.ownBlock v9_4 ≠ some aB9_9) ?_ ?_
      ·
        refine W_held (fun W => Ext w W ∧ Blk W aB1_0 (pub).l 29 ∧ Blk W aB8_7 ((recN (cmp (32) (recN m ((nmsAt (b) (2) (18)))) (((((b).getD 0 0).toNat * 256 + ((b).getD 1 0).toNat) % 32)) (32) ((nmsAt (b) (146) (5)))) ((nmsAt (b) (186) (18))))).l 29 ∧ True) mixed (fun w9_99 e9_99 => ?_)
        replace hE := hE.trans e9_99
        replace hB1_0 := hB1_0.ext e9_99
        replace hB8_7 := hB8_7.ext e9_99
        refine H_take (i := 0) rfl (by kernel_rfl) (by kernel_rfl) (by kernel_rfl) rfl pq_cut ⟨hE, hB1_0, hB8_7, trivial⟩ rfl (fun w hw => R_loadA (c := ((recN (cmp (32) (recN m ((nmsAt (b) (2) (18)))) (((((b).getD 0 0).toNat * 256 + ((b).getD 1 0).toNat) % 32)) (32) ((nmsAt (b) (146) (5)))) ((nmsAt (b) (186) (18))))).l) Tryz.isAgg29 Tryz.sizeOf29 hw.2.2.1 q14 rfl rfl) ?_
        refine H_take (i := 1) rfl (by kernel_rfl) (by kernel_rfl) (by kernel_rfl) rfl pq_cut ⟨hE, hB1_0, hB8_7, trivial⟩ rfl (fun w hw => R_move q9) ?_
        refine H_take (i := 2) rfl (by kernel_rfl) (by kernel_rfl) (by kernel_rfl) rfl pq_cut ⟨hE, hB1_0, hB8_7, trivial⟩ rfl (fun w hw => R_quoN (m := (((b).getD 0 0).toNat * 256 + ((b).getD 1 0).toNat)) (j := 32) rfl rfl (by decide) (by (try simp only [List.length_take, List.length_drop, List.length_append, List.length_cons, List.length_nil, List.length_replicate, List.length_set, Nm.b_len, be2_len]); omega)) ?_
        refine H_take (i := 3) rfl (by kernel_rfl) (by kernel_rfl) (by kernel_rfl) rfl pq_cut ⟨hE, hB1_0, hB8_7, trivial⟩ rfl (fun w hw => R_move q3) ?_
        refine H_op2 (i := 4) (i2 := 9) (by kernel_rfl) rfl rfl rfl rfl ?_ ?_
        ·
          refine D_callE (R_callF Tryz.call74 rfl rfl) (c171 v (b) (330) (5) _ (h.ext hE) (by omega) (by omega) (by omega)) (fun v9_4 w9_4 e9_4 p9_4 => ?_)
          have o9_4 := p9_4
          have yv9_4_B1_0 : Value.ownBlock v9_4 ≠ some aB1_0 := fun hk => absurd (own_ge o9_4.1 hk) (Nat.not_le.2 hB1_0.lt)
          have yv9_4_B8_7 : Value.ownBlock v9_4 ≠ some aB8_7 := fun hk => absurd (own_ge o9_4.1 hk) (Nat.not_le.2 hB8_7.lt)
          replace o9_4 := o9_4.low hE.size
          replace o9_4 := Ow.lev (lo' := w.heap.size) o9_4 (fun _ _ _ => trivial)
          replace hE := hE.trans e9_4
          replace hB1_0 := hB1_0.ext e9_4
          replace hB8_7 := hB8_7.ext e9_4
          refine ⟨⟨hE, hB1_0, hB8_7, trivial⟩, ?_⟩
          refine H_op2 (i := 5) (i2 := 9) (by kernel_rfl) rfl rfl rfl rfl ?_ ?_
          ·
            refine D_call (R_callF Tryz.call75 rfl rfl) (c172s ((recN (cmp (32) (recN m ((nmsAt (b) (2) (18)))) (((((b).getD 0 0).toNat * 256 + ((b).getD 1 0).toNat) % 32)) (32) ((nmsAt (b) (146) (5)))) ((nmsAt (b) (186) (18))))) (((((b).getD 0 0).toNat * 256 + ((b).getD 1 0).toNat) / 32)) (32) v9_4 ((nmsAt (b) (330) (5))) _ _ rfl (by omega) (by omega) (by rw [nmsAt_len, dep32 _ (by omega)]) (o9_4.ls.lev fun _ _ _ => trivial)) (fun w9_5 e9_5 => ?_)
            replace hE := hE.trans e9_5
            replace hB1_0 := hB1_0.ext e9_5
            replace hB8_7 := hB8_7.ext e9_5
            replace o9_4 := o9_4.ext e9_5
            refine ⟨⟨hE, hB1_0, hB8_7, trivial⟩, ?_⟩
            refine H_take (i := 6) rfl (by kernel_rfl) (by kernel_rfl) (by kernel_rfl) rfl pq_cut ⟨hE, hB1_0, hB8_7, trivial⟩ rfl (fun w hw => R_move rfl) ?_
            refine H_take (i := 7) rfl (by kernel_rfl) (by kernel_rfl) (by kernel_rfl) rfl pq_cut ⟨hE, hB1_0, hB8_7, trivial⟩ rfl (fun w hw => R_extract rfl rfl) ?_
            refine H_take (i := 8) rfl (by kernel_rfl) (by kernel_rfl) (by kernel_rfl) rfl pq_cut ⟨hE, hB1_0, hB8_7, trivial⟩ rfl (fun w hw => R_extract rfl rfl) ?_
            refine H_op (i := 9) (by kernel_rfl) rfl rfl (D_alloc (c := (Nm.zero).l) Tryz.zeroValue29 rfl (fun aB9_9 w9_9 e9_9 gB9_9 hB9_9 => ?_))
            have lB9_9 := Nat.le_trans hE.size gB9_9
            have nB1_0B9_9 := hB1_0.ne gB9_9
            have nB8_7B9_9 := hB8_7.ne gB9_9
            have yv9_4_B9_9 : Value.ownBlock v9_4 ≠ some aB9_9 := fun hk => absurd (own_lt o9_4.1 hk) (Nat.not_lt.2 gB9_9)
            replace hE := hE.trans e9_9
            replace hB1_0 := hB1_0.ext e9_9
            replace hB8_7 := hB8_7.ext e9_9
            replace o9_4 := o9_4.ext e9_9
            refine ⟨⟨hE, hB1_0, hB8_7, trivial⟩, ?_⟩
            have xo9_4 := yv9_4_B9_9
            have h0 := hB9_9
            refine H_op (i := 10) (by kernel_rfl) rfl rfl (D_storeA Tryz.sizeOf29 hB9_9 rfl rfl rfl rfl rfl (l' := ((cmp (32) (recN (cmp (32) (recN m ((nmsAt (b) (2) (18)))) (((((b).getD 0 0).toNat * 256 + ((b).getD 1 0).toNat) % 32)) (32) ((nmsAt (b) (146) (5)))) ((nmsAt (b) (186) (18)))) (((((b).getD 0 0).toNat * 256 + ((b).getD 1 0).toNat) / 32)) (32) ((nmsAt (b) (330) (5))))).l) rfl (fun w9_10 k9_10 hB9_9 => ?_))
            have f9_10 := Fb.kp k9_10 (Nat.le_trans (Nat.le_refl _) lB9_9) (Blk.notB h0 rfl)
            replace hE := hE.kp k9_10 lB9_9
            replace hB1_0 := hB1_0.kp k9_10 nB1_0B9_9
            replace hB8_7 := hB8_7.kp k9_10 nB8_7B9_9
            replace o9_4 := o9_4.kp k9_10 xo9_4 f9_10
            refine ⟨⟨hE, hB1_0, hB8_7, trivial⟩, ?_⟩
            refine H_take (i := 11) rfl (by kernel_rfl) (by kernel_rfl) (by kernel_rfl) rfl pq_cut ⟨hE, hB1_0, hB8_7, trivial⟩ rfl (fun w hw => R_assign rfl) ?_
            refine H_done (by kernel_rfl) ?_
            exact ⟨rfl, _, rfl, _, _, q4, rfl, hE, hB1_0, hB8_7, hB9_9, lB9_9, nB1_0B9_9, nB8_7B9_9, yv9_4_B1_0, yv9_4_B8_7, yv9_4_B9_9⟩
          ·
            refine D_alloc (c := (Nm.zero).l) Tryz.zeroValue29 rfl (fun aB9_9 w9_9 e9_9 gB9_9 hB9_9 => ?_)
            have lB9_9 := Nat.le_trans hE.size gB9_9
            have nB1_0B9_9 := hB1_0.ne gB9_9
            have nB8_7B9_9 := hB8_7.ne gB9_9
            have yv9_4_B9_9 : Value.ownBlock v9_4 ≠ some aB9_9 := fun hk => absurd (own_lt o9_4.1 hk) (Nat.not_lt.2 gB9_9)
            replace hE := hE.trans e9_9
            replace hB1_0 := hB1_0.ext e9_9
            replace hB8_7 := hB8_7.ext e9_9
            replace o9_4 := o9_4.ext e9_9
            refine ⟨⟨hE, hB1_0, hB8_7, trivial⟩, ?_⟩
            refine H_op (i := 5) (by kernel_rfl) rfl rfl (D_call (R_callF Tryz.call75 rfl rfl) (c172s ((recN (cmp (32) (recN m ((nmsAt (b) (2) (18)))) (((((b).getD 0 0).toNat * 256 + ((b).getD 1 0).toNat) % 32)) (32) ((nmsAt (b) (146) (5)))) ((nmsAt (b) (186) (18))))) (((((b).getD 0 0).toNat * 256 + ((b).getD 1 0).toNat) / 32)) (32) v9_4 ((nmsAt (b) (330) (5))) _ _ rfl (by omega) (by omega) (by rw [nmsAt_len, dep32 _ (by omega)]) (o9_4.ls.lev fun _ _ _ => trivial)) (fun w9_5 e9_5 => ?_))
            replace hE := hE.trans e9_5
            replace hB1_0 := hB1_0.ext e9_5
            replace hB8_7 := hB8_7.ext e9_5
            replace hB9_9 := hB9_9.ext e9_5
            replace o9_4 := o9_4.ext e9_5
            refine ⟨⟨hE, hB1_0, hB8_7, trivial⟩, ?_⟩
            refine H_take (i := 6) rfl (by kernel_rfl) (by kernel_rfl) (by kernel_rfl) rfl pq_cut ⟨hE, hB1_0, hB8_7, trivial⟩ rfl (fun w hw => R_move rfl) ?_
            refine H_take (i := 7) rfl (by kernel_rfl) (by kernel_rfl) (by kernel_rfl) rfl pq_cut ⟨hE, hB1_0, hB8_7, trivial⟩ rfl (fun w hw => R_extract rfl rfl) ?_
            refine H_take (i := 8) rfl (by kernel_rfl) (by kernel_rfl) (by kernel_rfl) rfl pq_cut ⟨hE, hB1_0, hB8_7, trivial⟩ rfl (fun w hw => R_extract rfl rfl) ?_
            have xo9_4 := yv9_4_B9_9
            have h0 := hB9_9
            refine H_op (i := 10) (by kernel_rfl) rfl rfl (D_storeA Tryz.sizeOf29 hB9_9 rfl rfl rfl rfl rfl (l' := ((cmp (32) (recN (cmp (32) (recN m ((nmsAt (b) (2) (18)))) (((((b).getD 0 0).toNat * 256 + ((b).getD 1 0).toNat) % 32)) (32) ((nmsAt (b) (146) (5)))) ((nmsAt (b) (186) (18)))) (((((b).getD 0 0).toNat * 256 + ((b).getD 1 0).toNat) / 32)) (32) ((nmsAt (b) (330) (5))))).l) rfl (fun w9_10 k9_10 hB9_9 => ?_))
            have f9_10 := Fb.kp k9_10 (Nat.le_trans (Nat.le_refl _) lB9_9) (Blk.notB h0 rfl)
            replace hE := hE.kp k9_10 lB9_9
            replace hB1_0 := hB1_0.kp k9_10 nB1_0B9_9
            replace hB8_7 := hB8_7.kp k9_10 nB8_7B9_9
            replace o9_4 := o9_4.kp k9_10 xo9_4 f9_10
            refine ⟨⟨hE, hB1_0, hB8_7, trivial⟩, ?_⟩
            refine H_take (i := 11) rfl (by kernel_rfl) (by kernel_rfl) (by kernel_rfl) rfl pq_cut ⟨hE, hB1_0, hB8_7, trivial⟩ rfl (fun w hw => R_assign rfl) ?_
            refine H_done (by kernel_rfl) ?_
            exact ⟨rfl, _, rfl, _, _, q4, rfl, hE, hB1_0, hB8_7, hB9_9, lB9_9, nB1_0B9_9, nB8_7B9_9, yv9_4_B1_0, yv9_4_B8_7, yv9_4_B9_9⟩
        ·
          refine D_alloc (c := (Nm.zero).l) Tryz.zeroValue29 rfl (fun aB9_9 w9_9 e9_9 gB9_9 hB9_9 => ?_)
          have lB9_9 := Nat.le_trans hE.size gB9_9
          have nB1_0B9_9 := hB1_0.ne gB9_9
          have nB8_7B9_9 := hB8_7.ne gB9_9
          replace hE := hE.trans e9_9
          replace hB1_0 := hB1_0.ext e9_9
          replace hB8_7 := hB8_7.ext e9_9
          refine ⟨⟨hE, hB1_0, hB8_7, trivial⟩, ?_⟩
          refine H_op (i := 4) (by kernel_rfl) rfl rfl (D_callE (R_callF Tryz.call74 rfl rfl) (c171 v (b) (330) (5) _ (h.ext hE) (by omega) (by omega) (by omega)) (fun v9_4 w9_4 e9_4 p9_4 => ?_))
          have o9_4 := p9_4
          have yv9_4_B1_0 : Value.ownBlock v9_4 ≠ some aB1_0 := fun hk => absurd (own_ge o9_4.1 hk) (Nat.not_le.2 hB1_0.lt)
          have yv9_4_B8_7 : Value.ownBlock v9_4 ≠ some aB8_7 := fun hk => absurd (own_ge o9_4.1 hk) (Nat.not_le.2 hB8_7.lt)
          have yv9_4_B9_9 : Value.ownBlock v9_4 ≠ some aB9_9 := fun hk => absurd (own_ge o9_4.1 hk) (Nat.not_le.2 hB9_9.lt)
          replace o9_4 := o9_4.low hE.size
          replace o9_4 := Ow.lev (lo' := w.heap.size) o9_4 (fun _ _ _ => trivial)
          replace hE := hE.trans e9_4
          replace hB1_0 := hB1_0.ext e9_4
          replace hB8_7 := hB8_7.ext e9_4
          replace hB9_9 := hB9_9.ext e9_4
          refine ⟨⟨hE, hB1_0, hB8_7, trivial⟩, ?_⟩
          refine H_op (i := 5) (by kernel_rfl) rfl rfl (D_call (R_callF Tryz.call75 rfl rfl) (c172s ((recN (cmp (32) (recN m ((nmsAt (b) (2) (18)))) (((((b).getD 0 0).toNat * 256 + ((b).getD 1 0).toNat) % 32)) (32) ((nmsAt (b) (146) (5)))) ((nmsAt (b) (186) (18))))) (((((b).getD 0 0).toNat * 256 + ((b).getD 1 0).toNat) / 32)) (32) v9_4 ((nmsAt (b) (330) (5))) _ _ rfl (by omega) (by omega) (by rw [nmsAt_len, dep32 _ (by omega)]) (o9_4.ls.lev fun _ _ _ => trivial)) (fun w9_5 e9_5 => ?_))
          replace hE := hE.trans e9_5
          replace hB1_0 := hB1_0.ext e9_5
          replace hB8_7 := hB8_7.ext e9_5
          replace hB9_9 := hB9_9.ext e9_5
          replace o9_4 := o9_4.ext e9_5
          refine ⟨⟨hE, hB1_0, hB8_7, trivial⟩, ?_⟩
          refine H_take (i := 6) rfl (by kernel_rfl) (by kernel_rfl) (by kernel_rfl) rfl pq_cut ⟨hE, hB1_0, hB8_7, trivial⟩ rfl (fun w hw => R_move rfl) ?_
          refine H_take (i := 7) rfl (by kernel_rfl) (by kernel_rfl) (by kernel_rfl) rfl pq_cut ⟨hE, hB1_0, hB8_7, trivial⟩ rfl (fun w hw => R_extract rfl rfl) ?_
          refine H_take (i := 8) rfl (by kernel_rfl) (by kernel_rfl) (by kernel_rfl) rfl pq_cut ⟨hE, hB1_0, hB8_7, trivial⟩ rfl (fun w hw => R_extract rfl rfl) ?_
          have xo9_4 := yv9_4_B9_9
          have h0 := hB9_9
          refine H_op (i := 10) (by kernel_rfl) rfl rfl (D_storeA Tryz.sizeOf29 hB9_9 rfl rfl rfl rfl rfl (l' := ((cmp (32) (recN (cmp (32) (recN m ((nmsAt (b) (2) (18)))) (((((b).getD 0 0).toNat * 256 + ((b).getD 1 0).toNat) % 32)) (32) ((nmsAt (b) (146) (5)))) ((nmsAt (b) (186) (18)))) (((((b).getD 0 0).toNat * 256 + ((b).getD 1 0).toNat) / 32)) (32) ((nmsAt (b) (330) (5))))).l) rfl (fun w9_10 k9_10 hB9_9 => ?_))
          have f9_10 := Fb.kp k9_10 (Nat.le_trans (Nat.le_refl _) lB9_9) (Blk.notB h0 rfl)
          replace hE := hE.kp k9_10 lB9_9
          replace hB1_0 := hB1_0.kp k9_10 nB1_0B9_9
          replace hB8_7 := hB8_7.kp k9_10 nB8_7B9_9
          replace o9_4 := o9_4.kp k9_10 xo9_4 f9_10
          refine ⟨⟨hE, hB1_0, hB8_7, trivial⟩, ?_⟩
          refine H_take (i := 11) rfl (by kernel_rfl) (by kernel_rfl) (by kernel_rfl) rfl pq_cut ⟨hE, hB1_0, hB8_7, trivial⟩ rfl (fun w hw => R_assign rfl) ?_
          refine H_done (by kernel_rfl) ?_
          exact ⟨rfl, _, rfl, _, _, q4, rfl, hE, hB1_0, hB8_7, hB9_9, lB9_9, nB1_0B9_9, nB8_7B9_9, yv9_4_B1_0, yv9_4_B8_7, yv9_4_B9_9⟩
      rintro f9 w9c ⟨v9_4, aB9_9, q4, q16, hE, hB1_0, hB8_7, hB9_9, lB9_9, nB1_0B9_9, nB8_7B9_9, yv9_4_B1_0, yv9_4_B8_7, yv9_4_B9_9⟩
      refine T_tn ?_
      refine wp_seq ?_
      refine W_region ?_
      refine L (D_v (R_loadA (c := ((cmp (32) (recN (cmp (32) (recN m ((nmsAt (b) (2) (18)))) (((((b).getD 0 0).toNat * 256 + ((b).getD 1 0).toNat) % 32)) (32) ((nmsAt (b) (146) (5)))) ((nmsAt (b) (186) (18)))) (((((b).getD 0 0).toNat * 256 + ((b).getD 1 0).toNat) / 32)) (32) ((nmsAt (b) (330) (5))))).l) Tryz.isAgg29 Tryz.sizeOf29 hB9_9 q16 rfl rfl) ?_)
      refine L (D_v (R_loadA (c := (pub).l) Tryz.isAgg29 Tryz.sizeOf29 hB1_0 q4 rfl rfl) ?_)
      refine L (D_v (R_eqlA Tryz.eqGuardType29 (eq24 ((cmp (32) (recN (cmp (32) (recN m ((nmsAt (b) (2) (18)))) (((((b).getD 0 0).toNat * 256 + ((b).getD 1 0).toNat) % 32)) (32) ((nmsAt (b) (146) (5)))) ((nmsAt (b) (186) (18)))) (((((b).getD 0 0).toNat * 256 + ((b).getD 1 0).toNat) / 32)) (32) ((nmsAt (b) (330) (5))))) (pub) _) rfl rfl) ?_)
      refine L (D_v (R_assign rfl) ?_)
      refine S_nil ?_
      refine T_tn ?_
      refine wp_ret ?_
      refine ret1 (v := .bool _) rfl rfl ⟨congrArg (fun b => Ending.returned (Value.bool b)) ?_, hE⟩
      unfold ver; rw [decide_eq_true hv, decide_eq_true hw]; rfl
set_option maxRecDepth 4000 in
set_option maxHeartbeats 1000000 in
theorem c75 (key : Nm) (x : Sg) (w : World) (hs : x.okf w.heap.size w) : Calls Tryz.prog 18 [key.v, x.v].toArray w (Ret w (.bool (verP key x.p))) := by
  refine enter Tryz.func18 Tryz.ntmps18 rfl rfl ?_
  have hE := Ext.refl w
  refine wp_seq ?_
  refine W_region ?_
  refine L (D_box (c := (key).l) (rfl) (fun aB1_0 w1_0 e1_0 gB1_0 hB1_0 => ?_))
  have lB1_0 := Nat.le_trans hE.size gB1_0
  replace hE := hE.trans e1_0
  refine L (D_box (c := (x).l) (rfl) (fun aB1_1 w1_1 e1_1 gB1_1 hB1_1 => ?_))
  have lB1_1 := Nat.le_trans hE.size gB1_1
  have nB1_0B1_1 := hB1_0.ne gB1_1
  replace hE := hE.trans e1_1
  replace hB1_0 := hB1_0.ext e1_1
  refine L (D_v (R_assign rfl) ?_)
  refine S_nil ?_
  refine T_tn ?_
  refine wp_seq ?_
  refine W_draw mixed (by kernel_rfl) ?_
  refine Q_v (fun w hw => R_fieldAddr Tryz.runUnderlying34 rfl Tryz.sizeOf31 rfl) ?_
  refine Q_v (fun w hw => R_loadA (c := ((x).vote).l) Tryz.isAgg31 Tryz.sizeOf31 (hB1_1.ext hw) rfl rfl rfl) ?_
  refine Q_call (fun w hw => R_callF Tryz.call38 rfl rfl) (fun w hw => c26 ((x).vote) _ ) ?_
  refine Q_v (fun w hw => R_move rfl) ?_
  refine Q_g1 rfl rfl (fun hb w hw => R_loadA (c := (key).l) Tryz.isAgg29 Tryz.sizeOf29 (hB1_0.ext hw) rfl rfl rfl) ?_
  refine Q_g1 rfl rfl (fun hb w hw => R_fieldAddr Tryz.runUnderlying34 rfl Tryz.sizeOf31 rfl) ?_
  refine Q_g1 rfl rfl (fun hb w hw => R_loadA (c := ((x).vote).l) Tryz.isAgg31 Tryz.sizeOf31 (hB1_1.ext hw) (cgE hb) rfl rfl) ?_
  refine Q_gc1 rfl rfl (fun hb w hw => R_callF Tryz.call40 (mapv1 (cgE hb)) rfl) (fun hb w hw => c36 ((x).vote) _) ?_
  refine Q_g1 rfl rfl (fun hb w hw => R_fieldAddr Tryz.runUnderlying34 rfl Tryz.sizeOf32 rfl) ?_
  refine Q_g1 rfl rfl (fun hb w hw => R_load Tryz.isAgg32 (hB1_1.ext hw) (cgE hb) rfl) ?_
  refine Q_gc1 rfl rfl (fun hb w hw => R_callF Tryz.call39 (mapv4 (cgE hb) rfl (cgE hb) (cgE hb)) rfl) (fun hb w hw => c105 (key) ((nameV (x).vote)) (.slice (x).A (x).n (x).c) ((x).sig) _ (hs.fb (Fb.ext (hE.trans hw))).bs) ?_
  refine Q_v (fun w hw => R_pickA rfl rfl rfl) ?_
  refine Q_v (fun w hw => R_assign rfl) ?_
  refine Q_nil (fun w2_99 e2_99 => ?_)
  replace hE := hE.trans e2_99
  replace hB1_0 := hB1_0.ext e2_99
  replace hB1_1 := hB1_1.ext e2_99
  refine T_tn ?_
  refine wp_ret ?_
  refine ret1 (v := .bool _) rfl rfl ⟨congrArg (fun b => Ending.returned (Value.bool b)) ?_, hE⟩
  unfold verP Sg.p; rfl
set_option maxRecDepth 4000 in
set_option maxHeartbeats 1000000 in
theorem c116 (key : Nm) (x : Sg) (w : World) (hs : x.okf w.heap.size w) : Calls Tryz.prog 19 [key.v, x.v].toArray w (Ret w (.bool (verP key x.p))) := by
  refine enter Tryz.func19 Tryz.ntmps19 rfl rfl ?_
  have hE := Ext.refl w
  refine wp_seq ?_
  refine W_region ?_
  refine L (D_box (c := (key).l) (rfl) (fun aB1_0 w1_0 e1_0 gB1_0 hB1_0 => ?_))
  have lB1_0 := Nat.le_trans hE.size gB1_0
  replace hE := hE.trans e1_0
  refine L (D_box (c := (x).l) (rfl) (fun aB1_1 w1_1 e1_1 gB1_1 hB1_1 => ?_))
  have lB1_1 := Nat.le_trans hE.size gB1_1
  have nB1_0B1_1 := hB1_0.ne gB1_1
  replace hE := hE.trans e1_1
  replace hB1_0 := hB1_0.ext e1_1
  refine L (D_v (R_assign rfl) ?_)
  refine S_nil ?_
  refine T_tn ?_
  refine wp_seq ?_
  refine W_draw mixed (by kernel_rfl) ?_
  refine Q_v (fun w hw => R_fieldAddr Tryz.runUnderlying34 rfl Tryz.sizeOf31 rfl) ?_
  refine Q_v (fun w hw => R_loadA (c := ((x).vote).l) Tryz.isAgg31 Tryz.sizeOf31 (hB1_1.ext hw) rfl rfl rfl) ?_
  refine Q_call (fun w hw => R_callF Tryz.call33 rfl rfl) (fun w hw => c27 ((x).vote) _ ) ?_
  refine Q_v (fun w hw => R_move rfl) ?_
  refine Q_g1 rfl rfl (fun hb w hw => R_loadA (c := (key).l) Tryz.isAgg29 Tryz.sizeOf29 (hB1_0.ext hw) rfl rfl rfl) ?_
  refine Q_g1 rfl rfl (fun hb w hw => R_fieldAddr Tryz.runUnderlying34 rfl Tryz.sizeOf31 rfl) ?_
  refine Q_g1 rfl rfl (fun hb w hw => R_loadA (c := ((x).vote).l) Tryz.isAgg31 Tryz.sizeOf31 (hB1_1.ext hw) (cgE hb) rfl rfl) ?_
  refine Q_gc1 rfl rfl (fun hb w hw => R_callF Tryz.call35 (mapv1 (cgE hb)) rfl) (fun hb w hw => c39 ((x).vote) _) ?_
  refine Q_g1 rfl rfl (fun hb w hw => R_fieldAddr Tryz.runUnderlying34 rfl Tryz.sizeOf32 rfl) ?_
  refine Q_g1 rfl rfl (fun hb w hw => R_load Tryz.isAgg32 (hB1_1.ext hw) (cgE hb) rfl) ?_
  refine Q_gc1 rfl rfl (fun hb w hw => R_callF Tryz.call41 (mapv4 (cgE hb) rfl (cgE hb) (cgE hb)) rfl) (fun hb w hw => c139 (key) ((nameV (x).vote)) (.slice (x).A (x).n (x).c) ((x).sig) _ _ rfl (hs.fb (Fb.ext (hE.trans hw))).bs) ?_
  refine Q_v (fun w hw => R_pickA rfl rfl rfl) ?_
  refine Q_v (fun w hw => R_assign rfl) ?_
  refine Q_nil (fun w2_99 e2_99 => ?_)
  replace hE := hE.trans e2_99
  replace hB1_0 := hB1_0.ext e2_99
  replace hB1_1 := hB1_1.ext e2_99
  refine T_tn ?_
  refine wp_ret ?_
  refine ret1 (v := .bool _) rfl rfl ⟨congrArg (fun b => Ending.returned (Value.bool b)) ?_, hE⟩
  unfold verP Sg.p; rfl
set_option maxRecDepth 4000 in
set_option maxHeartbeats 2000000 in
theorem c68 (v : Value) (b : List UInt8) (w : World) (h : Bs w v b) : Calls Tryz.prog 51 [v].toArray w (RetE w fun r w' => ∃ x : Sg, r = .tuple #[x.v, i64 (decS b).2] ∧ x.p = (decS b).1 ∧ x.okf 0 w') := by
  refine enter Tryz.func51 Tryz.ntmps51 rfl rfl ?_
  have hE := Ext.refl w
  refine wp_seq ?_
  refine W_region ?_
  refine L (D_alloc (c := (Sg.zero).l) Tryz.zeroValue34 rfl (fun aB1_0 w1_0 e1_0 gB1_0 hB1_0 => ?_))
  have lB1_0 := Nat.le_trans hE.size gB1_0
  replace hE := hE.trans e1_0
  refine L (D_v (R_assign rfl) ?_)
  refine S_nil ?_
  refine T_tn ?_
  refine wp_seq ?_
  refine wp_block ?_
  refine wp_seq ?_
  refine W_region ?_
  refine L (D_v (R_move rfl) ?_)
  refine L (D_v (R_len Tryz.underlying32 rfl (h.ext hE)) ?_)
  refine L (D_v (R_lssI rfl rfl) ?_)
  refine L (D_v (R_assign rfl) ?_)
  refine S_nil ?_
  refine T_tn ?_
  refine W_if rfl (fun c1 => ?_) (fun c1 => ?_)
  ·
    have hl : b.length < 393 := by simp at c1; omega
    refine wp_seq ?_
    refine W_region ?_
    refine L (D_v (R_buildS (c := Sg.zero.l) Tryz.runUnderlying34 places53 Tryz.zeroValue34 rfl rfl) ?_)
    have h0 := hB1_0
    refine L (D_storeA Tryz.sizeOf34 hB1_0 rfl rfl rfl rfl rfl (l' := (Sg.zero).l) rfl (fun w3_1 k3_1 hB1_0 => ?_))
    replace hE := hE.kp k3_1 lB1_0
    refine L (D_v (R_assign rfl) ?_)
    refine S_nil ?_
    refine T_tn ?_
    refine wp_ret ?_
    refine T_br ?_
    refine T_tr ?_
    refine retct (c := (Sg.zero).l) (v2 := i64 (2)) rfl rfl rfl Tryz.isAgg34 Tryz.sizeOf34 hB1_0 rfl rfl ⟨_, rfl, hE, ?_⟩
    rw [decS_short hl]
    exact ⟨Sg.zero, rfl, rfl, Sg.okz 0 _⟩
  ·
    have hl1 : ¬ b.length < 393 := by simp at c1; omega
    refine wp_seq ?_
    refine W_region ?_
    refine L (D_v (R_move rfl) ?_)
    refine L (D_v (R_len Tryz.underlying32 rfl (h.ext hE)) ?_)
    refine L (D_v (R_gtrI rfl rfl) ?_)
    refine L (D_v (R_assign rfl) ?_)
    refine S_nil ?_
    refine T_tn ?_
    refine W_if rfl (fun c2 => ?_) (fun c2 => ?_)
    ·
      have hl : 393 < b.length := by simp at c2; omega
      refine wp_seq ?_
      refine W_region ?_
      refine L (D_v (R_buildS (c := Sg.zero.l) Tryz.runUnderlying34 places53 Tryz.zeroValue34 rfl rfl) ?_)
      have h0 := hB1_0
      refine L (D_storeA Tryz.sizeOf34 hB1_0 rfl rfl rfl rfl rfl (l' := (Sg.zero).l) rfl (fun w4_1 k4_1 hB1_0 => ?_))
      replace hE := hE.kp k4_1 lB1_0
      refine L (D_v (R_assign rfl) ?_)
      refine S_nil ?_
      refine T_tn ?_
      refine wp_ret ?_
      refine T_br ?_
      refine T_tr ?_
      refine retct (c := (Sg.zero).l) (v2 := i64 (3)) rfl rfl rfl Tryz.isAgg34 Tryz.sizeOf34 hB1_0 rfl rfl ⟨_, rfl, hE, ?_⟩
      rw [decS_long hl]
      exact ⟨Sg.zero, rfl, rfl, Sg.okz 0 _⟩
    ·
      have hl : b.length = 393 := by simp at c2; omega
      refine wp_skip ?_
      refine T_bn ?_
      refine T_tn ?_
      refine wp_seq ?_
      refine W_region ?_
      refine L (D_v (R_move rfl) ?_)
      refine L (D_v (R_sliceHi (j := 23) Tryz.underlying32 Tryz.sizeOf5 rfl rfl (h.ext hE) (by (try simp only [List.length_take, List.length_drop, List.length_append, List.length_cons, List.length_nil, List.length_replicate, List.length_set, Nm.b_len, be2_len]); omega)) ?_)
      refine L (D_call (R_callF Tryz.call87 rfl rfl) (c40 (cutV v 1 (0) (23)) ((((b).drop (0)).take (23 - 0))) _ ((h.ext hE).cut (by (try simp only [List.length_take, List.length_drop, List.length_append, List.length_cons, List.length_nil, List.length_replicate, List.length_set, Nm.b_len, be2_len]); omega) (by (try simp only [List.length_take, List.length_drop, List.length_append, List.length_cons, List.length_nil, List.length_replicate, List.length_set, Nm.b_len, be2_len]); omega))) (fun w4_2 e4_2 => ?_))
      replace hE := hE.trans e4_2
      replace hB1_0 := hB1_0.ext e4_2
      refine L (D_v (R_move rfl) ?_)
      refine L (D_v (R_extract rfl rfl) ?_)
      refine L (D_v (R_extract rfl rfl) ?_)
      refine L (D_alloc (c := (Vt.zero).l) Tryz.zeroValue31 rfl (fun aB4_6 w4_6 e4_6 gB4_6 hB4_6 => ?_))
      have lB4_6 := Nat.le_trans hE.size gB4_6
      have nB1_0B4_6 := hB1_0.ne gB4_6
      replace hE := hE.trans e4_6
      replace hB1_0 := hB1_0.ext e4_6
      have h0 := hB4_6
      refine L (D_storeA Tryz.sizeOf31 hB4_6 rfl rfl rfl rfl rfl (l' := ((dec ((((b).drop (0)).take (23 - 0)))).1).l) rfl (fun w4_7 k4_7 hB4_6 => ?_))
      replace hE := hE.kp k4_7 lB4_6
      replace hB1_0 := hB1_0.kp k4_7 nB1_0B4_6
      refine L (D_v (R_assign rfl) ?_)
      refine S_nil ?_
      refine T_tn ?_
      refine wp_seq ?_
      refine wp_seq ?_
      refine W_region ?_
      refine L (D_v (R_move rfl) ?_)
      refine L (D_v (R_neqI rfl rfl) ?_)
      refine S_nil ?_
      refine T_tn ?_
      refine W_if rfl (fun c3 => ?_) (fun c3 => ?_)
      ·
        have hb0 : (dec (b.take 23)).2 ≠ 0 := by rw [take0] at c3; simpa using c3
        refine wp_seq ?_
        refine W_region ?_
        refine L (D_v (R_buildS (c := Sg.zero.l) Tryz.runUnderlying34 places53 Tryz.zeroValue34 rfl rfl) ?_)
        refine L (D_v (R_move rfl) ?_)
        have h0 := hB1_0
        refine L (D_storeA Tryz.sizeOf34 hB1_0 rfl rfl rfl rfl rfl (l' := (Sg.zero).l) rfl (fun w6_2 k6_2 hB1_0 => ?_))
        replace hE := hE.kp k6_2 lB1_0
        refine L (D_v (R_assign rfl) ?_)
        refine S_nil ?_
        refine T_tn ?_
        refine wp_ret ?_
        refine T_tr ?_
        refine retct (c := (Sg.zero).l) (v2 := i64 (dec ((((b).drop (0)).take (23 - 0)))).2) rfl rfl rfl Tryz.isAgg34 Tryz.sizeOf34 hB1_0 rfl rfl ⟨_, rfl, hE, ?_⟩
        rw [decS_bad hl hb0]
        exact ⟨Sg.zero, by rw [← take0 b 23]; rfl, rfl, Sg.okz 0 _⟩
      ·
        have hb0 : (dec (b.take 23)).2 = 0 := by rw [take0] at c3; simpa using c3
        refine wp_skip ?_
        refine T_tn ?_
        refine wp_seq ?_
        refine W_held (fun W => Ext w W ∧ Blk W aB4_6 ((dec ((((b).drop (0)).take (23 - 0)))).1).l 31 ∧ True) mixed (fun w6_99 e6_99 => ?_)
        replace hE := hE.trans e6_99
        replace hB1_0 := hB1_0.ext e6_99
        replace hB4_6 := hB4_6.ext e6_99
        refine H_take (i := 0) rfl (by kernel_rfl) (by kernel_rfl) (by kernel_rfl) rfl (pq_then pq_body) ⟨hE, hB4_6, trivial⟩ rfl (fun w hw => R_loadA (c := ((dec ((((b).drop (0)).take (23 - 0)))).1).l) Tryz.isAgg31 Tryz.sizeOf31 hw.2.1 rfl rfl rfl) ?_
        refine H_take (i := 1) rfl (by kernel_rfl) (by kernel_rfl) (by kernel_rfl) rfl (pq_then pq_body) ⟨hE, hB4_6, trivial⟩ rfl (fun w hw => R_move rfl) ?_
        refine H_take (i := 2) rfl (by kernel_rfl) (by kernel_rfl) (by kernel_rfl) rfl (pq_then pq_body) ⟨hE, hB4_6, trivial⟩ rfl (fun w hw => R_sliceLo (i := 23) Tryz.underlying32 Tryz.sizeOf5 rfl rfl (h.ext hw.1) (by (try simp only [List.length_take, List.length_drop, List.length_append, List.length_cons, List.length_nil, List.length_replicate, List.length_set, Nm.b_len, be2_len]); omega)) ?_
        refine H_op (i := 3) (by kernel_rfl) rfl rfl (D_callE (R_callF Tryz.call45 rfl rfl) (c86_0 (cutV v 1 (23) ((b).length)) ((((b).drop (23)).take ((b).length - 23))) _ _ ((h.ext hE).cut (by (try simp only [List.length_take, List.length_drop, List.length_append, List.length_cons, List.length_nil, List.length_replicate, List.length_set, Nm.b_len, be2_len]); omega) (by (try simp only [List.length_take, List.length_drop, List.length_append, List.length_cons, List.length_nil, List.length_replicate, List.length_set, Nm.b_len, be2_len]); omega)) (by (try simp only [List.length_take, List.length_drop, List.length_append, List.length_cons, List.length_nil, List.length_replicate, List.length_set, Nm.b_len, be2_len]); omega)) (fun v6_3 w6_3 e6_3 p6_3 => ?_))
        have o6_3 := p6_3
        replace o6_3 := o6_3.lo hE.size
        replace hE := hE.trans e6_3
        replace hB1_0 := hB1_0.ext e6_3
        replace hB4_6 := hB4_6.ext e6_3
        refine ⟨⟨hE, hB4_6, trivial⟩, ?_⟩
        have k6_4 : Sg.okf w.heap.size w6_3 (mkSg ((dec ((((b).drop (0)).take (23 - 0)))).1) v6_3 (((b).drop (23)).take ((b).length - 23))) := mkSg_ok _ (Bf.own o6_3)
        refine H_op (i := 4) (by kernel_rfl) rfl rfl (D_v (R_buildS (vs := [(0, .agg ((dec ((((b).drop (0)).take (23 - 0)))).1).l.toArray), (1, v6_3)]) (c := (mkSg ((dec ((((b).drop (0)).take (23 - 0)))).1) v6_3 (((b).drop (23)).take ((b).length - 23))).l) Tryz.runUnderlying34 places53 Tryz.zeroValue34 (mapp2 rfl rfl) (fill53 _ o6_3.bs)) ⟨⟨hE, hB4_6, trivial⟩, ?_⟩)
        have xo6_3 := own_neB o6_3 hB1_0 rfl
        have h0 := hB1_0
        refine H_op (i := 5) (by kernel_rfl) rfl rfl (D_storeA Tryz.sizeOf34 hB1_0 rfl rfl rfl rfl rfl (l' := ((mkSg ((dec ((((b).drop (0)).take (23 - 0)))).1) v6_3 (((b).drop (23)).take ((b).length - 23)))).l) rfl (fun w6_5 k6_5 hB1_0 => ?_))
        have f6_5 := Fb.kp k6_5 (Nat.le_trans (Nat.le_refl _) lB1_0) (Blk.notB h0 rfl)
        replace hE := hE.kp k6_5 lB1_0
        replace hB4_6 := hB4_6.kp k6_5 nB1_0B4_6.symm
        replace o6_3 := o6_3.kp k6_5 xo6_3
        replace k6_4 := k6_4.fb f6_5
        refine ⟨⟨hE, hB4_6, trivial⟩, ?_⟩
        refine H_take (i := 6) rfl (by kernel_rfl) (by kernel_rfl) (by kernel_rfl) rfl (pq_then pq_body) ⟨hE, hB4_6, trivial⟩ rfl (fun w hw => R_assign rfl) ?_
        refine H_done (by kernel_rfl) ?_
        refine T_tn ?_
        refine wp_ret ?_
        refine retct (c := ((mkSg ((dec ((((b).drop (0)).take (23 - 0)))).1) v6_3 (((b).drop (23)).take ((b).length - 23)))).l) (v2 := i64 (0)) rfl rfl rfl Tryz.isAgg34 Tryz.sizeOf34 hB1_0 rfl rfl ⟨_, rfl, hE, ?_⟩
        rw [decS_ok hl hb0, ← take0 b 23, ← dropn b 23]
        exact ⟨(mkSg ((dec ((((b).drop (0)).take (23 - 0)))).1) v6_3 (((b).drop (23)).take ((b).length - 23))), rfl, rfl, mkSg_ok _ (Bf.own o6_3)⟩
set_option maxRecDepth 4000 in
set_option maxHeartbeats 2000000 in
theorem c81 (v : Value) (b : List UInt8) (w : World) (h : Bs w v b) : Calls Tryz.prog 32 [v].toArray w (RetE w fun r w' => ∃ x : Ev, r = .tuple #[x.v, i64 (decE b).2] ∧ x.p = (decE b).1 ∧ x.okf 0 w') := by
  refine enter Tryz.func32 Tryz.ntmps32 rfl rfl ?_
  have hE := Ext.refl w
  refine wp_seq ?_
  refine W_region ?_
  refine L (D_alloc (c := (Ev.zero).l) Tryz.zeroValue51 rfl (fun aB1_0 w1_0 e1_0 gB1_0 hB1_0 => ?_))
  have lB1_0 := Nat.le_trans hE.size gB1_0
  replace hE := hE.trans e1_0
  refine L (D_v (R_assign rfl) ?_)
  refine S_nil ?_
  refine T_tn ?_
  refine wp_seq ?_
  refine wp_block ?_
  refine wp_seq ?_
  refine W_region ?_
  refine L (D_v (R_move rfl) ?_)
  refine L (D_v (R_len Tryz.underlying32 rfl (h.ext hE)) ?_)
  refine L (D_v (R_lssI rfl rfl) ?_)
  refine L (D_v (R_assign rfl) ?_)
  refine S_nil ?_
  refine T_tn ?_
  refine W_if rfl (fun c1 => ?_) (fun c1 => ?_)
  ·
    have hl : b.length < 786 := by simp at c1; omega
    refine wp_seq ?_
    refine W_region ?_
    refine L (D_v (R_buildS (c := Ev.zero.l) Tryz.runUnderlying51 places55 Tryz.zeroValue51 rfl rfl) ?_)
    have h0 := hB1_0
    refine L (D_storeA Tryz.sizeOf51 hB1_0 rfl rfl rfl rfl rfl (l' := (Ev.zero).l) rfl (fun w3_1 k3_1 hB1_0 => ?_))
    replace hE := hE.kp k3_1 lB1_0
    refine L (D_v (R_assign rfl) ?_)
    refine S_nil ?_
    refine T_tn ?_
    refine wp_ret ?_
    refine T_br ?_
    refine T_tr ?_
    refine retct (c := (Ev.zero).l) (v2 := i64 (2)) rfl rfl rfl Tryz.isAgg51 Tryz.sizeOf51 hB1_0 rfl rfl ⟨_, rfl, hE, ?_⟩
    rw [decE_short hl]
    exact ⟨Ev.zero, by first | rfl | (simp only [take0, dropn]; rfl), rfl, Ev.okz 0 _⟩
  ·
    have hl1 : ¬ b.length < 786 := by simp at c1; omega
    refine wp_seq ?_
    refine W_region ?_
    refine L (D_v (R_move rfl) ?_)
    refine L (D_v (R_len Tryz.underlying32 rfl (h.ext hE)) ?_)
    refine L (D_v (R_gtrI rfl rfl) ?_)
    refine L (D_v (R_assign rfl) ?_)
    refine S_nil ?_
    refine T_tn ?_
    refine W_if rfl (fun c2 => ?_) (fun c2 => ?_)
    ·
      have hl : 786 < b.length := by simp at c2; omega
      refine wp_seq ?_
      refine W_region ?_
      refine L (D_v (R_buildS (c := Ev.zero.l) Tryz.runUnderlying51 places55 Tryz.zeroValue51 rfl rfl) ?_)
      have h0 := hB1_0
      refine L (D_storeA Tryz.sizeOf51 hB1_0 rfl rfl rfl rfl rfl (l' := (Ev.zero).l) rfl (fun w4_1 k4_1 hB1_0 => ?_))
      replace hE := hE.kp k4_1 lB1_0
      refine L (D_v (R_assign rfl) ?_)
      refine S_nil ?_
      refine T_tn ?_
      refine wp_ret ?_
      refine T_br ?_
      refine T_tr ?_
      refine retct (c := (Ev.zero).l) (v2 := i64 (3)) rfl rfl rfl Tryz.isAgg51 Tryz.sizeOf51 hB1_0 rfl rfl ⟨_, rfl, hE, ?_⟩
      rw [decE_long hl]
      exact ⟨Ev.zero, by first | rfl | (simp only [take0, dropn]; rfl), rfl, Ev.okz 0 _⟩
    ·
      have hl : b.length = 786 := by simp at c2; omega
      refine wp_skip ?_
      refine T_bn ?_
      refine T_tn ?_
      refine wp_seq ?_
      refine W_region ?_
      refine L (D_v (R_move rfl) ?_)
      refine L (D_v (R_sliceHi (j := 393) Tryz.underlying32 Tryz.sizeOf5 rfl rfl (h.ext hE) (by (try simp only [List.length_take, List.length_drop, List.length_append, List.length_cons, List.length_nil, List.length_replicate, List.length_set, Nm.b_len, be2_len]); omega)) ?_)
      refine L (D_callE (R_callF Tryz.call51 rfl rfl) (c68 (cutV v 1 (0) (393)) ((((b).drop (0)).take (393 - 0))) _ ((h.ext hE).cut (by (try simp only [List.length_take, List.length_drop, List.length_append, List.length_cons, List.length_nil, List.length_replicate, List.length_set, Nm.b_len, be2_len]); omega) (by (try simp only [List.length_take, List.length_drop, List.length_append, List.length_cons, List.length_nil, List.length_replicate, List.length_set, Nm.b_len, be2_len]); omega))) (fun v4_2 w4_2 e4_2 p4_2 => ?_))
      obtain ⟨x4_2, rfl, p4_2a, k4_2⟩ := p4_2
      replace hE := hE.trans e4_2
      replace hB1_0 := hB1_0.ext e4_2
      refine L (D_v (R_move rfl) ?_)
      refine L (D_v (R_extract rfl rfl) ?_)
      refine L (D_v (R_extract rfl rfl) ?_)
      refine L (D_alloc (c := (Sg.zero).l) Tryz.zeroValue34 rfl (fun aB4_6 w4_6 e4_6 gB4_6 hB4_6 => ?_))
      have lB4_6 := Nat.le_trans hE.size gB4_6
      have nB1_0B4_6 := hB1_0.ne gB4_6
      replace hE := hE.trans e4_6
      replace hB1_0 := hB1_0.ext e4_6
      replace k4_2 := k4_2.fb (Fb.ext e4_6)
      have h0 := hB4_6
      refine L (D_storeA Tryz.sizeOf34 hB4_6 rfl rfl rfl rfl rfl (l' := (x4_2).l) rfl (fun w4_7 k4_7 hB4_6 => ?_))
      have f4_7 := Fb.kp k4_7 (Nat.le_trans (Nat.le_refl _) lB4_6) (Blk.notB h0 rfl)
      replace hE := hE.kp k4_7 lB4_6
      replace hB1_0 := hB1_0.kp k4_7 nB1_0B4_6
      replace k4_2 := k4_2.fb (Fb.kp k4_7 (Nat.zero_le _) (Blk.notB h0 rfl))
      refine L (D_v (R_assign rfl) ?_)
      refine S_nil ?_
      refine T_tn ?_
      refine wp_seq ?_
      refine wp_seq ?_
      refine W_region ?_
      refine L (D_v (R_move rfl) ?_)
      refine L (D_v (R_neqI rfl rfl) ?_)
      refine S_nil ?_
      refine T_tn ?_
      refine W_if rfl (fun c3 => ?_) (fun c3 => ?_)
      ·
        have hb0 : (decS (b.take 393)).2 ≠ 0 := by rw [take0] at c3; simpa using c3
        refine wp_seq ?_
        refine W_region ?_
        refine L (D_v (R_buildS (c := Ev.zero.l) Tryz.runUnderlying51 places55 Tryz.zeroValue51 rfl rfl) ?_)
        refine L (D_v (R_move rfl) ?_)
        have h0 := hB1_0
        refine L (D_storeA Tryz.sizeOf51 hB1_0 rfl rfl rfl rfl rfl (l' := (Ev.zero).l) rfl (fun w6_2 k6_2 hB1_0 => ?_))
        have f6_2 := Fb.kp k6_2 (Nat.le_trans (Nat.le_refl _) lB1_0) (Blk.notB h0 rfl)
        replace hE := hE.kp k6_2 lB1_0
        replace k4_2 := k4_2.fb (Fb.kp k6_2 (Nat.zero_le _) (Blk.notB h0 rfl))
        refine L (D_v (R_assign rfl) ?_)
        refine S_nil ?_
        refine T_tn ?_
        refine wp_ret ?_
        refine T_tr ?_
        refine retct (c := (Ev.zero).l) (v2 := i64 (decS ((((b).drop (0)).take (393 - 0)))).2) rfl rfl rfl Tryz.isAgg51 Tryz.sizeOf51 hB1_0 rfl rfl ⟨_, rfl, hE, ?_⟩
        rw [decE_a hl hb0]
        exact ⟨Ev.zero, by first | rfl | (simp only [take0, dropn]; rfl), rfl, Ev.okz 0 _⟩
      ·
        have hb0 : (decS (b.take 393)).2 = 0 := by rw [take0] at c3; simpa using c3
        refine wp_skip ?_
        refine T_tn ?_
        refine wp_seq ?_
        refine W_region ?_
        refine L (D_v (R_move rfl) ?_)
        refine L (D_v (R_sliceLo (i := 393) Tryz.underlying32 Tryz.sizeOf5 rfl rfl (h.ext hE) (by (try simp only [List.length_take, List.length_drop, List.length_append, List.length_cons, List.length_nil, List.length_replicate, List.length_set, Nm.b_len, be2_len]); omega)) ?_)
        refine L (D_callE (R_callF Tryz.call51 rfl rfl) (c68 (cutV v 1 (393) ((b).length)) ((((b).drop (393)).take ((b).length - 393))) _ ((h.ext hE).cut (by (try simp only [List.length_take, List.length_drop, List.length_append, List.length_cons, List.length_nil, List.length_replicate, List.length_set, Nm.b_len, be2_len]); omega) (by (try simp only [List.length_take, List.length_drop, List.length_append, List.length_cons, List.length_nil, List.length_replicate, List.length_set, Nm.b_len, be2_len]); omega))) (fun v6_2 w6_2 e6_2 p6_2 => ?_))
        obtain ⟨x6_2, rfl, p6_2a, k6_2⟩ := p6_2
        replace hE := hE.trans e6_2
        replace hB1_0 := hB1_0.ext e6_2
        replace hB4_6 := hB4_6.ext e6_2
        replace k4_2 := k4_2.fb (Fb.ext e6_2)
        refine L (D_v (R_move rfl) ?_)
        refine L (D_v (R_extract rfl rfl) ?_)
        refine L (D_v (R_extract rfl rfl) ?_)
        refine L (D_alloc (c := (Sg.zero).l) Tryz.zeroValue34 rfl (fun aB6_6 w6_6 e6_6 gB6_6 hB6_6 => ?_))
        have lB6_6 := Nat.le_trans hE.size gB6_6
        have nB1_0B6_6 := hB1_0.ne gB6_6
        have nB4_6B6_6 := hB4_6.ne gB6_6
        replace hE := hE.trans e6_6
        replace hB1_0 := hB1_0.ext e6_6
        replace hB4_6 := hB4_6.ext e6_6
        replace k4_2 := k4_2.fb (Fb.ext e6_6)
        replace k6_2 := k6_2.fb (Fb.ext e6_6)
        have h0 := hB6_6
        refine L (D_storeA Tryz.sizeOf34 hB6_6 rfl rfl rfl rfl rfl (l' := (x6_2).l) rfl (fun w6_7 k6_7 hB6_6 => ?_))
        have f6_7 := Fb.kp k6_7 (Nat.le_trans (Nat.le_refl _) lB6_6) (Blk.notB h0 rfl)
        replace hE := hE.kp k6_7 lB6_6
        replace hB1_0 := hB1_0.kp k6_7 nB1_0B6_6
        replace hB4_6 := hB4_6.kp k6_7 nB4_6B6_6
        replace k4_2 := k4_2.fb (Fb.kp k6_7 (Nat.zero_le _) (Blk.notB h0 rfl))
        replace k6_2 := k6_2.fb (Fb.kp k6_7 (Nat.zero_le _) (Blk.notB h0 rfl))
        refine L (D_v (R_assign rfl) ?_)
        refine S_nil ?_
        refine T_tn ?_
        refine wp_seq ?_
        refine wp_seq ?_
        refine W_region ?_
        refine L (D_v (R_move rfl) ?_)
        refine L (D_v (R_neqI rfl rfl) ?_)
        refine S_nil ?_
        refine T_tn ?_
        refine W_if rfl (fun c4 => ?_) (fun c4 => ?_)
        ·
          have hb1 : (decS (b.drop 393)).2 ≠ 0 := by rw [dropn] at c4; simpa using c4
          refine wp_seq ?_
          refine W_region ?_
          refine L (D_v (R_buildS (c := Ev.zero.l) Tryz.runUnderlying51 places55 Tryz.zeroValue51 rfl rfl) ?_)
          refine L (D_v (R_move rfl) ?_)
          have h0 := hB1_0
          refine L (D_storeA Tryz.sizeOf51 hB1_0 rfl rfl rfl rfl rfl (l' := (Ev.zero).l) rfl (fun w8_2 k8_2 hB1_0 => ?_))
          have f8_2 := Fb.kp k8_2 (Nat.le_trans (Nat.le_refl _) lB1_0) (Blk.notB h0 rfl)
          replace hE := hE.kp k8_2 lB1_0
          replace k4_2 := k4_2.fb (Fb.kp k8_2 (Nat.zero_le _) (Blk.notB h0 rfl))
          replace k6_2 := k6_2.fb (Fb.kp k8_2 (Nat.zero_le _) (Blk.notB h0 rfl))
          refine L (D_v (R_assign rfl) ?_)
          refine S_nil ?_
          refine T_tn ?_
          refine wp_ret ?_
          refine T_tr ?_
          refine retct (c := (Ev.zero).l) (v2 := i64 (decS ((((b).drop (393)).take ((b).length - 393)))).2) rfl rfl rfl Tryz.isAgg51 Tryz.sizeOf51 hB1_0 rfl rfl ⟨_, rfl, hE, ?_⟩
          rw [decE_b hl hb0 hb1]
          exact ⟨Ev.zero, by first | rfl | (simp only [take0, dropn]; rfl), rfl, Ev.okz 0 _⟩
        ·
          have hb1 : (decS (b.drop 393)).2 = 0 := by rw [dropn] at c4; simpa using c4
          refine wp_skip ?_
          refine T_tn ?_
          refine wp_seq ?_
          refine W_region ?_
          refine L (D_v (R_loadA (c := (x4_2).l) Tryz.isAgg34 Tryz.sizeOf34 hB4_6 rfl rfl rfl) ?_)
          refine L (D_v (R_loadA (c := (x6_2).l) Tryz.isAgg34 Tryz.sizeOf34 hB6_6 rfl rfl rfl) ?_)
          have k8_2 : Ev.okf w.heap.size w6_7 (⟨x4_2, x6_2⟩ : Ev) := ⟨(k4_2.up (Nat.zero_le _)), (k6_2.up (Nat.zero_le _))⟩
          refine L (D_v (R_buildS (vs := [(0, .agg (x4_2).l.toArray), (1, .agg (x6_2).l.toArray)]) (c := (⟨x4_2, x6_2⟩ : Ev).l) Tryz.runUnderlying51 places55 Tryz.zeroValue51 (mapp2 rfl rfl) (fill55 _ _)) ?_)
          have h0 := hB1_0
          refine L (D_storeA Tryz.sizeOf51 hB1_0 rfl rfl rfl rfl rfl (l' := ((⟨x4_2, x6_2⟩ : Ev)).l) rfl (fun w8_3 k8_3 hB1_0 => ?_))
          have f8_3 := Fb.kp k8_3 (Nat.le_trans (Nat.le_refl _) lB1_0) (Blk.notB h0 rfl)
          replace hE := hE.kp k8_3 lB1_0
          replace hB4_6 := hB4_6.kp k8_3 nB1_0B4_6.symm
          replace hB6_6 := hB6_6.kp k8_3 nB1_0B6_6.symm
          replace k4_2 := k4_2.fb (Fb.kp k8_3 (Nat.zero_le _) (Blk.notB h0 rfl))
          replace k6_2 := k6_2.fb (Fb.kp k8_3 (Nat.zero_le _) (Blk.notB h0 rfl))
          replace k8_2 := k8_2.fb f8_3
          refine L (D_v (R_assign rfl) ?_)
          refine S_nil ?_
          refine T_tn ?_
          refine wp_ret ?_
          refine retct (c := ((⟨x4_2, x6_2⟩ : Ev)).l) (v2 := i64 (0)) rfl rfl rfl Tryz.isAgg51 Tryz.sizeOf51 hB1_0 rfl rfl ⟨_, rfl, hE, ?_⟩
          rw [decE_ok hl hb0 hb1]
          simp only [take0, dropn] at p4_2a p6_2a
          exact ⟨(⟨x4_2, x6_2⟩ : Ev), rfl, Prod.ext p4_2a p6_2a, ⟨k4_2, k6_2⟩⟩
end Go.Proofs.YteeopgpgbdhmhaaGreat
namespace Go.Proofs.YteeopgpgbdhmhaaGreat
open Go.RowKit
set_option linter.unusedVariables false
set_option linter.unusedSimpArgs false
attribute [local irreducible] lessP ltB wpList wpO H wpQuiet wpStill Code.wp Exit.then Exit.inBlock bodyPost Code.rounds Calls valid sameKey conflict lessV hless num between
set_option maxRecDepth 4000 in
set_option maxHeartbeats 2000000 in
theorem c95 {α : Type} {S : (Nat → α) → World → Prop} {gB n : Nat} {lf sf : Value} {lt : α → α → Bool} (hR : Srt Tryz.prog S gB n lf sf lt) (f : Nat → α) (p : Option Addr) (c : Nat) (w : World) (hG : S f w) (hsw : isSw (.slice p n c) sf) : Calls Tryz.prog 46 [.iface 23 (.slice p n c), lf].toArray w (RetS gB w fun w2 => ∃ f', S f' w2 ∧ Mv f f' 0 n ∧ srt lt f' 0 n) := by
  refine enter Tryz.func46 Tryz.ntmps46 rfl rfl ?_
  have hE := Chg.refl gB w
  have hnb := hR.nb
  have hlp := hR.lp
  have hsp := hR.sp
  have hX := Ext.refl w
  have hG0 := hG
  refine wp_seq ?_
  refine W_region ?_
  refine L (D_v (R_move rfl) ?_)
  refine L (D_valueOf rfl (fun aBV w1_1 e1_1 gBV hBV => ?_))
  have lBV := Nat.le_trans hE.size gBV
  have nGBV := Nat.ne_of_lt (Nat.lt_of_lt_of_le (hR.bound _ _ hG) gBV)
  replace hE := hE.trans e1_1
  replace hX := hX.trans e1_1
  replace hG := hR.ext _ _ _ hG e1_1
  refine L (D_alloc Tryz.zeroValue111 rfl (fun aB1_2 w1_2 e1_2 gB1_2 hB1_2 => ?_))
  have lB1_2 := Nat.le_trans hE.size gB1_2
  have nGB1_2 := Nat.ne_of_lt (Nat.lt_of_lt_of_le (hR.bound _ _ hG) gB1_2)
  have nBVB1_2 := hBV.ne gB1_2
  replace hE := hE.trans e1_2
  replace hX := hX.trans e1_2
  replace hG := hR.ext _ _ _ hG e1_2
  replace hBV := hBV.ext e1_2
  have h0 := hB1_2
  refine L (D_storeA Tryz.sizeOf111 hB1_2 rfl rfl rfl rfl rfl (l' := [typeHandle Tryz.prog 23, .pointer (some ⟨aBV, 0, none⟩), .int .u64 (151)]) rfl (fun w1_3 k1_3 hB1_2 => ?_))
  replace hE := hE.kpo k1_3 lB1_2
  replace hX := hX.kp k1_3 lB1_2
  replace hG := hR.ext _ _ _ hG0 hX
  replace hBV := hBV.kp k1_3 nBVB1_2
  refine S_nil ?_
  refine T_tn ?_
  refine wp_seq ?_
  refine W_region ?_
  refine L (D_v (R_move rfl) ?_)
  refine L (D_v (R_callX ext125 rfl rfl (hsw _)) ?_)
  refine L (D_v (R_assign rfl) ?_)
  refine S_nil ?_
  refine T_tn ?_
  refine W_region ?_
  refine L (D_v (R_move rfl) ?_)
  refine L (D_v (R_move rfl) ?_)
  refine L (D_v (R_buildS (vs := [(0, lf), (1, sf)]) (c := [lf, sf]) Tryz.runUnderlying117 places145 Tryz.zeroValue117 (mapp2 rfl rfl) (fill145 hlp hsp)) ?_)
  refine L (D_v (R_loadA (c := [typeHandle Tryz.prog 23, .pointer (some ⟨aBV, 0, none⟩), .int .u64 (151)]) Tryz.isAgg111 Tryz.sizeOf111 hB1_2 rfl rfl rfl) ?_)
  refine L (D_valueLen rfl hBV ?_)
  refine L (D_callS (R_callF Tryz.call83 rfl rfl) (c126 hR (f) _ hG) (fun w3_5 p3_5 => ?_))
  obtain ⟨e3_5, h3_5, hG, q3_5⟩ := p3_5
  replace hE := hE.chg e3_5
  replace hBV := hBV.chg e3_5 nGBV.symm
  replace hB1_2 := hB1_2.chg e3_5 nGB1_2.symm
  refine S_nil ?_
  refine ret0n rfl ⟨rfl, hE, ?_⟩
  exact ⟨_, hG, q3_5⟩
set_option maxRecDepth 4000 in
set_option maxHeartbeats 1000000 in
theorem c99 (u v : Value) (a b : List UInt8) (w : World) (ha : Bs w u a) (hb : Bs w v b) : Calls Tryz.prog 85 [u, v].toArray w (Ret w (i64 (Go.Lib.compareBytes a b))) := by
  refine enter Tryz.func85 Tryz.ntmps85 rfl rfl ?_
  have hE := Ext.refl w
  refine wp_seq ?_
  refine W_region ?_
  refine L (D_v (R_assign rfl) ?_)
  refine S_nil ?_
  refine T_tn ?_
  refine wp_seq ?_
  refine W_region ?_
  refine L (D_v (R_move rfl) ?_)
  refine L (D_v (R_move rfl) ?_)
  refine L (D_v (R_callX ext132 rfl rfl (run_compare (a := a) (b := b) (ha.ext hE) (hb.ext hE))) ?_)
  refine L (D_v (R_assign rfl) ?_)
  refine S_nil ?_
  refine T_tn ?_
  refine wp_ret ?_
  refine ret1 (v := .int _ _) rfl rfl ⟨?_, hE⟩
  rfl
set_option maxRecDepth 4000 in
set_option maxHeartbeats 1000000 in
theorem c61 (x y : Sg) (w : World) (hx : x.okf w.heap.size w) (hy : y.okf w.heap.size w) : Calls Tryz.prog 48 [x.v, y.v].toArray w (Ret w (.bool (lessP x.p y.p))) := by
  refine enter Tryz.func48 Tryz.ntmps48 rfl rfl ?_
  have hE := Ext.refl w
  refine wp_seq ?_
  refine W_region ?_
  refine L (D_box (c := (x).l) (rfl) (fun aB1_0 w1_0 e1_0 gB1_0 hB1_0 => ?_))
  have lB1_0 := Nat.le_trans hE.size gB1_0
  replace hE := hE.trans e1_0
  refine L (D_box (c := (y).l) (rfl) (fun aB1_1 w1_1 e1_1 gB1_1 hB1_1 => ?_))
  have lB1_1 := Nat.le_trans hE.size gB1_1
  have nB1_0B1_1 := hB1_0.ne gB1_1
  replace hE := hE.trans e1_1
  replace hB1_0 := hB1_0.ext e1_1
  refine L (D_v (R_assign rfl) ?_)
  refine S_nil ?_
  refine T_tn ?_
  refine wp_seq ?_
  refine wp_seq ?_
  refine W_region ?_
  refine L (D_v (R_fieldAddr Tryz.runUnderlying34 rfl Tryz.sizeOf31 rfl) ?_)
  refine L (D_v (R_loadA (c := ((x).vote).l) Tryz.isAgg31 Tryz.sizeOf31 hB1_0 rfl rfl rfl) ?_)
  refine L (D_v (R_fieldAddr Tryz.runUnderlying34 rfl Tryz.sizeOf31 rfl) ?_)
  refine L (D_v (R_loadA (c := ((y).vote).l) Tryz.isAgg31 Tryz.sizeOf31 hB1_1 rfl rfl rfl) ?_)
  refine L (D_v (R_neqA Tryz.eqGuardType31 (eq26 ((x).vote) ((y).vote) _) rfl rfl) ?_)
  refine S_nil ?_
  refine T_tn ?_
  refine W_if rfl (fun c1 => ?_) (fun c1 => ?_)
  ·
    have hne : (x).p.1 ≠ (y).p.1 := (show ¬ (x).vote = (y).vote by simpa using c1)
    refine wp_seq ?_
    refine W_region ?_
    refine L (D_v (R_fieldAddr Tryz.runUnderlying34 rfl Tryz.sizeOf31 rfl) ?_)
    refine L (D_v (R_loadA (c := ((x).vote).l) Tryz.isAgg31 Tryz.sizeOf31 hB1_0 rfl rfl rfl) ?_)
    refine L (D_v (R_fieldAddr Tryz.runUnderlying34 rfl Tryz.sizeOf31 rfl) ?_)
    refine L (D_v (R_loadA (c := ((y).vote).l) Tryz.isAgg31 Tryz.sizeOf31 hB1_1 rfl rfl rfl) ?_)
    refine L (D_call (R_callF Tryz.call28 rfl rfl) (c33 ((x).vote) ((y).vote) _ ) (fun w3_4 e3_4 => ?_))
    replace hE := hE.trans e3_4
    replace hB1_0 := hB1_0.ext e3_4
    replace hB1_1 := hB1_1.ext e3_4
    refine L (D_v (R_assign rfl) ?_)
    refine S_nil ?_
    refine T_tn ?_
    refine wp_ret ?_
    refine T_tr ?_
    refine ret1 (v := .bool _) rfl rfl ⟨?_, hE⟩
    rw [lessP_ne hne]; rfl
  ·
    have hne : (x).p.1 = (y).p.1 := (show (x).vote = (y).vote by simpa using c1)
    refine wp_skip ?_
    refine T_tn ?_
    refine wp_seq ?_
    refine W_region ?_
    refine L (D_v (R_fieldAddr Tryz.runUnderlying34 rfl Tryz.sizeOf32 rfl) ?_)
    refine L (D_v (R_load Tryz.isAgg32 hB1_0 rfl rfl) ?_)
    refine L (D_v (R_fieldAddr Tryz.runUnderlying34 rfl Tryz.sizeOf32 rfl) ?_)
    refine L (D_v (R_load Tryz.isAgg32 hB1_1 rfl rfl) ?_)
    refine L (D_call (R_callF Tryz.call85 rfl rfl) (c99 (.slice (x).A (x).n (x).c) (.slice (y).A (y).n (y).c) ((x).sig) ((y).sig) _ (hx.fb (Fb.ext hE)).bs (hy.fb (Fb.ext hE)).bs) (fun w3_4 e3_4 => ?_))
    replace hE := hE.trans e3_4
    replace hB1_0 := hB1_0.ext e3_4
    replace hB1_1 := hB1_1.ext e3_4
    refine L (D_v (R_lssI rfl rfl) ?_)
    refine L (D_v (R_assign rfl) ?_)
    refine S_nil ?_
    refine T_tn ?_
    refine wp_ret ?_
    refine ret1 (v := .bool _) rfl rfl ⟨?_, hE⟩
    rw [lessP_eq hne]; exact congrArg (fun z => Ending.returned (Value.bool z)) (ltB_cmp _ _)
set_option maxRecDepth 4000 in
set_option maxHeartbeats 2000000 in
theorem c96 (lo : Nat) (i j aB0 : Nat) (v : Value) (xs : List Sg) (w : World) (hlo : lo ≤ w.heap.size) (hT : Blk w aB0 [v] 23) (h : Ls cS lo w v xs) (hi : i < xs.length) (hj : j < xs.length) : Calls Tryz.prog 47 [i64 ((i : Nat) : Int), i64 ((j : Nat) : Int), .pointer (some ⟨aB0, 0, none⟩)].toArray w (Ret w (.bool (lessP (xs.getD i Sg.zero).p (xs.getD j Sg.zero).p))) := by
  refine enter Tryz.func47 Tryz.ntmps47 rfl rfl ?_
  have hE := Ext.refl w
  refine wp_seq ?_
  refine W_region ?_
  refine L (D_v (R_assign rfl) ?_)
  refine S_nil ?_
  refine T_tn ?_
  refine wp_seq ?_
  refine W_draw mixed (by kernel_rfl) ?_
  refine Q_v (fun w hw => R_load Tryz.isAgg23 (hT.ext hw) rfl rfl) ?_
  refine Q_v (fun w hw => R_move rfl) ?_
  refine Q_v (fun w hw => R_elAddr (i := i) Tryz.underlying23 Tryz.sizeOf34 rfl rfl (h.ext (hE.trans hw)).1 (by (try simp only [List.length_take, List.length_drop, List.length_append, List.length_cons, List.length_nil, List.length_replicate, List.length_set, Nm.b_len, be2_len]); omega)) ?_
  refine Q_v (fun w hw => R_ldL (C := cS) (i := i) (y := ((xs).getD (i) Sg.zero)) Tryz.isAgg34 Tryz.sizeOf34 rfl (h.ext (hE.trans hw)) (getD_some (d := Sg.zero) (by (try simp only [List.length_take, List.length_drop, List.length_append, List.length_cons, List.length_nil, List.length_replicate, List.length_set, Nm.b_len, be2_len]); omega))) ?_
  refine Q_v (fun w hw => R_load Tryz.isAgg23 (hT.ext hw) rfl rfl) ?_
  refine Q_v (fun w hw => R_move rfl) ?_
  refine Q_v (fun w hw => R_elAddr (i := j) Tryz.underlying23 Tryz.sizeOf34 rfl rfl (h.ext (hE.trans hw)).1 (by (try simp only [List.length_take, List.length_drop, List.length_append, List.length_cons, List.length_nil, List.length_replicate, List.length_set, Nm.b_len, be2_len]); omega)) ?_
  refine Q_v (fun w hw => R_ldL (C := cS) (i := j) (y := ((xs).getD (j) Sg.zero)) Tryz.isAgg34 Tryz.sizeOf34 rfl (h.ext (hE.trans hw)) (getD_some (d := Sg.zero) (by (try simp only [List.length_take, List.length_drop, List.length_append, List.length_cons, List.length_nil, List.length_replicate, List.length_set, Nm.b_len, be2_len]); omega))) ?_
  refine Q_call (fun w hw => R_callF Tryz.call48 rfl rfl) (fun w hw => c61 (((xs).getD (i) Sg.zero)) (((xs).getD (j) Sg.zero)) _ (((h.get (getD_some (d := Sg.zero) (by (try simp only [List.length_take, List.length_drop, List.length_append, List.length_cons, List.length_nil, List.length_replicate, List.length_set, Nm.b_len, be2_len]); omega))).fb (Fb.ext (hE.trans hw))).up (Nat.le_trans hlo (hE.trans hw).size)) (((h.get (getD_some (d := Sg.zero) (by (try simp only [List.length_take, List.length_drop, List.length_append, List.length_cons, List.length_nil, List.length_replicate, List.length_set, Nm.b_len, be2_len]); omega))).fb (Fb.ext (hE.trans hw))).up (Nat.le_trans hlo (hE.trans hw).size))) ?_
  refine Q_v (fun w hw => R_assign rfl) ?_
  refine Q_nil (fun w2_99 e2_99 => ?_)
  replace hE := hE.trans e2_99
  replace hT := hT.ext e2_99
  refine T_tn ?_
  refine wp_ret ?_
  refine ret1 (v := .bool _) rfl rfl ⟨congrArg (fun b => Ending.returned (Value.bool b)) ?_, hE⟩
  exact rfl
end Go.Proofs.YteeopgpgbdhmhaaGreat
namespace Go.Proofs.YteeopgpgbdhmhaaGreat
open Go.RowKit Go.Lib
set_option linter.unusedVariables false
set_option linter.unusedSimpArgs false
def srtL (xs : List Sg) : Prop := ∀ (i j : Nat) (x y : Sg), i < j → xs[i]? = some x → xs[j]? = some y → lessP y.p x.p = false
def ltS (a b : Sg) : Bool := lessP a.p b.p
theorem ordS : Ordd ltS := sto_P.ord.pull Sg.p
def Sorted46 (lo lk : Nat) (v : Value) (xs : List Sg) (w w' : World) : Prop :=
  w.grownBy w' v.ownBlock ∧ Fb lo w w' ∧ ∃ xs', Ow cS lo lk w' v xs' ∧ xs'.length = xs.length ∧ (∀ p, p ∈ xs'.map Sg.p ↔ p ∈ xs.map Sg.p) ∧ srtL xs'
theorem lsf_getD {n i : Nat} (f : Nat → Sg) (h : i < n) : (lsf n f).getD i Sg.zero = f i := by rw [List.getD_eq_getElem?_getD, lsf_at f h]; rfl
theorem lsf_of (xs : List Sg) : lsf xs.length (fun k => xs.getD k Sg.zero) = xs := by
  apply List.ext_getElem?
  intro k
  by_cases hk : k < xs.length
  · rw [lsf_at _ hk, List.getD_eq_getElem?_getD, List.getElem?_eq_getElem hk]; rfl
  · rw [List.getElem?_eq_none (by rw [lsf_len]; omega), List.getElem?_eq_none (by omega)]
theorem swp_same {α : Type} (f : Nat → α) (i : Nat) : swp f i i = f := by
  funext k; unfold swp; split
  · rename_i h; rw [h]
  · rfl
theorem cv_less {g n cap aT lo : Nat} {tl : List Value} {f : Nat → Sg} {W : World} (h : RowS g n cap aT lo tl f W) (hc : n ≤ cap) (hm : cap ≤ 9223372036854775807) (hlo : lo ≤ g) {i j : Nat} (hi : i < n) (hj : j < n) :
    CV Tryz.prog (.func (.func 47) #[] #[.pointer (some ⟨aT, 0, none⟩)]) [i64 (i : Int), i64 (j : Int)] W (fun v W' => v = .bool (ltS (f i) (f j)) ∧ Ext W W') := by
  refine ⟨47, _, rfl, .inl ⟨Tryz.call47 _ _, ?_⟩⟩
  have := c96 lo i j aT (.slice (some ⟨g, 0, none⟩) n cap) (lsf n f) W (Nat.le_trans hlo (Nat.le_of_lt h.row.lt)) h.cell (h.ls hc hm) (by rw [lsf_len]; exact hi) (by rw [lsf_len]; exact hj)
  refine this.mono ?_
  rintro e W' ⟨rfl, hE⟩
  rw [lsf_getD f hi, lsf_getD f hj]
  exact ⟨_, rfl, rfl, hE⟩
theorem srt_many {g n cap aT lo : Nat} (tl : List Value) (hc : n ≤ cap) (hm : cap ≤ 9223372036854775807) (hlo : lo ≤ g) (hn : n ≤ 1000000) (hk : 2 ≤ n) :
    Srt Tryz.prog (RowS g n cap aT lo tl) g n (.func (.func 47) #[] #[.pointer (some ⟨aT, 0, none⟩)]) (.func (.func 112) #[] #[.slice (some ⟨g, 0, none⟩) n cap, typeHandle Tryz.prog 34]) ltS where
  ord := ordS
  lp := rfl
  sp := rfl
  nb := hn
  bound := fun f W h => h.row.lt
  ext := fun f W W' h e => h.ext e
  less := fun f W i j h hi hj => cv_less h hc hm hlo hi hj
  swap := fun f W i j h hi hj => by
    obtain ⟨W', h1, h2, h3⟩ := run_swapS h hlo hi hj
    refine ⟨112, _, rfl, .inr ⟨.tuple #[], W', ?_, rfl, h2, h3⟩⟩
    have e : ([i64 (i : Int), i64 (j : Int)].toArray ++ #[Value.slice (some ⟨g, 0, none⟩) n cap, typeHandle Tryz.prog 34]) = #[.int .i64 (i : Int), .int .i64 (j : Int), .slice (some ⟨g, 0, none⟩) n cap, typeHandle Tryz.prog 34] := rfl
    rw [e, ext154, h1]
    rfl
theorem srt_one {g cap aT lo : Nat} (tl : List Value) (hc : 1 ≤ cap) (hm : cap ≤ 9223372036854775807) (hlo : lo ≤ g) :
    Srt Tryz.prog (RowS g 1 cap aT lo tl) g 1 (.func (.func 47) #[] #[.pointer (some ⟨aT, 0, none⟩)]) (.func (.func 105) #[] #[]) ltS where
  ord := ordS
  lp := rfl
  sp := rfl
  nb := by decide
  bound := fun f W h => h.row.lt
  ext := fun f W W' h e => h.ext e
  less := fun f W i j h hi hj => cv_less h hc hm hlo hi hj
  swap := fun f W i j h hi hj => by
    obtain rfl : i = 0 := by omega
    obtain rfl : j = 0 := by omega
    refine ⟨105, _, rfl, .inr ⟨.tuple #[], W, ?_, rfl, Chg.refl _ _, by rw [swp_same]; exact h⟩⟩
    rw [ext147]
    rfl
theorem srt_zero {g cap aT lo : Nat} (tl : List Value) : Srt Tryz.prog (RowS g 0 cap aT lo tl) g 0 (.func (.func 47) #[] #[.pointer (some ⟨aT, 0, none⟩)]) (.func (.func 104) #[] #[]) ltS where
  ord := ordS
  lp := rfl
  sp := rfl
  nb := by decide
  bound := fun f W h => h.row.lt
  ext := fun f W W' h e => h.ext e
  less := fun f W i j h hi hj => by omega
  swap := fun f W i j h hi hj => by omega
theorem srt_nil {aT : Nat} : Srt Tryz.prog (fun (_ : Nat → Sg) W => Blk W aT [.slice none 0 0] 23) aT 0 (.func (.func 47) #[] #[.pointer (some ⟨aT, 0, none⟩)]) (.func (.func 104) #[] #[]) ltS where
  ord := ordS
  lp := rfl
  sp := rfl
  nb := by decide
  bound := fun f W h => h.lt
  ext := fun f W W' h e => h.ext e
  less := fun f W i j h hi hj => by omega
  swap := fun f W i j h hi hj => by omega
theorem sort46_of {g n cap aT lo lk : Nat} {tl : List Value} {f : Nat → Sg} {w : World} {sf : Value} (hg : lk ≤ g) (hll : lo ≤ lk) (hc : n ≤ cap) (hm : cap ≤ maxLen) (htl : tl.length = cap * 23 - n * 23) (hS : RowS g n cap aT lo tl f w)
    (hR : Srt Tryz.prog (RowS g n cap aT lo tl) g n (.func (.func 47) #[] #[.pointer (some ⟨aT, 0, none⟩)]) sf ltS) (hsw : isSw (.slice (some ⟨g, 0, none⟩) n cap) sf) :
    Calls Tryz.prog 46 [.iface 23 (.slice (some ⟨g, 0, none⟩) n cap), .func (.func 47) #[] #[.pointer (some ⟨aT, 0, none⟩)]].toArray w (fun e w' => e = .returned (.tuple #[]) ∧ Sorted46 lo lk (.slice (some ⟨g, 0, none⟩) n cap) (lsf n f) w w') := by
  refine (c95 hR f (some ⟨g, 0, none⟩) cap w hS hsw).mono ?_
  rintro e w' ⟨rfl, hch, f', hS', hmv, hsr⟩
  have hfb : Fb lo w w' := Fb.chg hch (Nat.le_trans hll hg) (Blk.notB hS.row rfl)
  refine ⟨rfl, ⟨hch.os, hch.tape, hch.output, hch.size, fun k hk hne => hch.block k hk (fun e => hne (by rw [e]; rfl))⟩, hfb, lsf n f', ⟨?_, fun x hx => ?_⟩, by rw [lsf_len, lsf_len], fun p => ?_, ?_⟩
  · have hcl : (cS.cs (lsf n f')).length = n * 23 := by rw [cs_len, lsf_len]; rfl
    have hle : n * 23 ≤ cap * 23 := Nat.mul_le_mul_right _ hc
    rw [lsf_len]
    refine ⟨hcl, .inr ⟨g, cap, _, rfl, hg, hS'.row, hc, hm, ?_, ?_⟩⟩
    · show (cS.cs (lsf n f') ++ tl).toArray.size = cap * 23
      rw [List.size_toArray, List.length_append, hcl, htl]; omega
    · exact List.take_left' hcl
  · obtain ⟨k, hk⟩ := List.getElem?_of_mem hx
    have hkn : k < n := by have := (List.getElem?_eq_some_iff.1 hk).1; rwa [lsf_len] at this
    rw [lsf_at f' hkn] at hk; cases hk; exact hS'.ok k hkn
  · constructor
    · intro hp
      obtain ⟨x, hx, rfl⟩ := List.mem_map.1 hp
      obtain ⟨k, hk⟩ := List.getElem?_of_mem hx
      have hkn : k < n := by have := (List.getElem?_eq_some_iff.1 hk).1; rwa [lsf_len] at this
      rw [lsf_at f' hkn] at hk; cases hk
      obtain ⟨j, _, hj, e⟩ := hmv.to k (Nat.zero_le _) hkn
      exact List.mem_map.2 ⟨f j, List.mem_of_getElem? (lsf_at f hj), by rw [e]⟩
    · intro hp
      obtain ⟨x, hx, rfl⟩ := List.mem_map.1 hp
      obtain ⟨k, hk⟩ := List.getElem?_of_mem hx
      have hkn : k < n := by have := (List.getElem?_eq_some_iff.1 hk).1; rwa [lsf_len] at this
      rw [lsf_at f hkn] at hk; cases hk
      obtain ⟨j, _, hj, e⟩ := hmv.fro k (Nat.zero_le _) hkn
      exact List.mem_map.2 ⟨f' j, List.mem_of_getElem? (lsf_at f' hj), by rw [e]⟩
  · intro i j x y hij hx hy
    have hjn : j < n := by have := (List.getElem?_eq_some_iff.1 hy).1; rwa [lsf_len] at this
    rw [lsf_at f' (by omega)] at hx
    rw [lsf_at f' hjn] at hy
    cases hx; cases hy
    exact hsr i j (Nat.zero_le _) hij hjn
theorem sort46 {lo lk aT : Nat} {v : Value} {xs : List Sg} {w : World} (hO : Ow cS lo lk w v xs) (hll : lo ≤ lk) (hT : Blk w aT [v] 23) (hn : xs.length ≤ 1000000) :
    Calls Tryz.prog 46 [.iface 23 v, .func (.func 47) #[] #[.pointer (some ⟨aT, 0, none⟩)]].toArray w (fun e w' => e = .returned (.tuple #[]) ∧ Sorted46 lo lk v xs w w') := by
  obtain ⟨⟨hl, ⟨rfl, h0⟩ | ⟨g, cap, cur, rfl, hg, hb, h1, h2, h3, h4⟩⟩, hok⟩ := hO
  · obtain rfl : xs = [] := List.eq_nil_of_length_eq_zero h0
    refine (c95 srt_nil (fun _ => Sg.zero) none 0 w hT (isSw_zero none 0)).mono ?_
    rintro e w' ⟨rfl, hch, f', hS', _, _⟩
    have hblk : ∀ k, k < w.heap.size → w'.heap[k]? = w.heap[k]? := fun k hk => by
      by_cases e : k = aT
      · subst e
        have e1 : w'.heap[k]? = _ := hS'
        have e2 : w.heap[k]? = _ := hT
        rw [e1, e2]
      · exact hch.block k hk e
    have hx : Ext w w' := ⟨hch.os, hch.tape, hch.output, hch.size, hblk⟩
    exact ⟨rfl, ⟨hch.os, hch.tape, hch.output, hch.size, fun k hk _ => hblk k hk⟩, Fb.ext hx, [], Ow.nil _ _ _ _, rfl, fun _ => Iff.rfl, fun i j x y _ hx => by simp at hx⟩
  · have hB : Blk w g cur.toList 34 := by
      have hb' : w.heap[g]? = some (.cells cur 34 (0, 0)) := hb
      simpa [Blk] using hb'
    have h3' : cur.size = cap * 23 := h3
    have h4' : cur.toList.take (xs.length * 23) = cS.cs xs := h4
    have hcat : cur.toList = cS.cs (lsf xs.length (fun k => xs.getD k Sg.zero)) ++ cur.toList.drop (xs.length * 23) := by rw [lsf_of, ← h4', List.take_append_drop]
    rw [hcat] at hB
    have hS : RowS g xs.length cap aT lo (cur.toList.drop (xs.length * 23)) (fun k => xs.getD k Sg.zero) w := ⟨hB, hT, fun k hk => hok _ (by
      show xs.getD k Sg.zero ∈ xs
      rw [List.getD_eq_getElem?_getD, List.getElem?_eq_getElem hk]; exact List.getElem_mem hk)⟩
    have hm : cap ≤ 9223372036854775807 := h2
    have htl : (cur.toList.drop (xs.length * 23)).length = cap * 23 - xs.length * 23 := by rw [List.length_drop]; simp [h3']
    have key : ∀ sf, Srt Tryz.prog (RowS g xs.length cap aT lo (cur.toList.drop (xs.length * 23))) g xs.length (.func (.func 47) #[] #[.pointer (some ⟨aT, 0, none⟩)]) sf ltS → isSw (.slice (some ⟨g, 0, none⟩) xs.length cap) sf →
        Calls Tryz.prog 46 [.iface 23 (.slice (some ⟨g, 0, none⟩) xs.length cap), .func (.func 47) #[] #[.pointer (some ⟨aT, 0, none⟩)]].toArray w (fun e w' => e = .returned (.tuple #[]) ∧ Sorted46 lo lk (.slice (some ⟨g, 0, none⟩) xs.length cap) xs w w') := by
      intro sf hR hsw
      have := sort46_of hg hll h1 h2 htl hS hR hsw
      rwa [lsf_of] at this
    rcases Nat.lt_or_ge xs.length 2 with hs | hs
    · by_cases hz : xs.length = 0
      · refine key (.func (.func 104) #[] #[]) ?_ ?_
        · rw [hz]; exact srt_zero _
        · rw [hz]; exact isSw_zero _ _
      · have h1l : xs.length = 1 := by omega
        refine key (.func (.func 105) #[] #[]) ?_ ?_
        · rw [h1l]; rw [h1l] at h1; exact srt_one _ h1 hm (Nat.le_trans hll hg)
        · rw [h1l]; exact isSw_one _ _
    · exact key _ (srt_many _ h1 hm (Nat.le_trans hll hg) hn hs) (isSw_many _ _ hs)
end Go.Proofs.YteeopgpgbdhmhaaGreat
namespace Go.Proofs.YteeopgpgbdhmhaaGreat
open Go.ChangeShapes Go.WideShapes Go.ChangeAt Go.RowKit
set_option maxRecDepth 20000
set_option linter.constructorNameAsVariable false
theorem cells31 : Tryz.prog.cellsOf 32 = 1 := by kernel_rfl
theorem cells53 : Tryz.prog.cellsOf 34 = 23 := by kernel_rfl
variable {H : Type} {enc : TypeId × Value → H} {w : World} {base : Nat} {sp : Nat → Bool} {held : Bool} {fuel : Nat} {cs : List Value} {x : DataW H × List MemPlace}
theorem rd31 (h : DataW.trod enc Tryz.prog w base sp held fuel 32 cs = some x) : ∃ A n c b, cs = [.slice A n c] ∧ Bs w (.slice A n c) b := by
  rcases open_ints Tryz.underlying32 Tryz.underlying5 (by kernel_rfl) h with ⟨hcs, _⟩ | ⟨x, l, c, zs, hcs, _, hl, hm, hz, _, hcell, hwz⟩
  · exact ⟨none, 0, 0, [], hcs, rfl, none, 0, rfl, Nat.le_refl _, by omega, fun _ => rfl, by intro j u hu; simp [bl] at hu⟩
  · have hz' : l ≤ zs.length := by rw [hz]; split <;> omega
    refine ⟨some x, l, c, (zs.take l).map fun n => UInt8.ofNat n.toNat, hcs, by simp [bl_len], some x, c, ?_, ?_, ?_, ?_, ?_⟩
    · simp only [List.length_map, List.length_take]; rw [Nat.min_eq_left (by omega)]
    · simp only [List.length_map, List.length_take]; omega
    · have : maxLen = 9223372036854775807 := rfl
      omega
    · intro e; cases e
    · intro j u hu
      refine ⟨x, rfl, ?_⟩
      simp only [bl, List.getElem?_map, Option.map_eq_some_iff, List.getElem?_take] at hu
      obtain ⟨_, ⟨n, hn, rfl⟩, rfl⟩ := hu
      split at hn
      · have hj : j < zs.length := (List.getElem?_eq_some_iff.1 hn).1
        rw [hcell j hj]
        obtain ⟨b, hb⟩ := wf_u8 (hwz n (List.mem_of_getElem? hn))
        have e : zs.getD j 0 = n := by simp [List.getD, hn]
        rw [e]
        have hbn : n = (b.toNat : Int) := by simpa [u8] using hb
        rw [hbn]
        simp [u8]
      · cases hn
theorem rd53 (h : DataW.trod enc Tryz.prog w base sp held fuel 34 cs = some x) : ∃ s : Sg, cs = s.l ∧ s.ok w ∧ s.vote.wf := by
  obtain ⟨xs, m, rfl, _, hlen, hxs, hi⟩ := DataW.trod_struct Tryz.underlying34 h
  rw [cells53] at hlen
  have hx : ∀ i : Nat, i < 2 → xs[i]? = some (xs[i]?.getD x) := fun i h8 => by
    have : i < xs.length := by rw [hxs]; exact h8
    simp [this]
  have g0 : DataW.trod enc Tryz.prog w base sp held m 31 ((cs.drop 0).take (Tryz.prog.cellsOf 31)) = xs[0]? := hi 0 _ rfl
  have g1 : DataW.trod enc Tryz.prog w base sp held m 32 ((cs.drop 22).take (Tryz.prog.cellsOf 32)) = xs[1]? := hi 1 _ rfl
  rw [hx _ (by omega)] at g0 g1
  rw [cells26] at g0
  rw [cells31] at g1
  obtain ⟨v, ev, wv⟩ := rd26 g0
  obtain ⟨A, n, c, b, eb, hb⟩ := rd31 g1
  refine ⟨⟨v, A, n, c, b⟩, ?_, hb, wv⟩
  have split : cs = (cs.drop 0).take 22 ++ (cs.drop 22).take 1 := by
    rw [List.drop_zero, List.take_of_length_le (show (cs.drop 22).length ≤ 1 by rw [List.length_drop]; omega), List.take_append_drop]
  rw [split, ev, eb]; rfl
theorem choice_list {α : Type} {n : Nat} {R : Nat → α → Prop} (h : ∀ i, i < n → ∃ a, R i a) : ∃ l : List α, l.length = n ∧ ∀ i a, l[i]? = some a → R i a := by
  refine ⟨List.ofFn fun i : Fin n => Classical.choose (h i.1 i.2), by simp, ?_⟩
  intro i a ha
  rw [List.getElem?_ofFn] at ha
  split at ha
  · rename_i hi
    cases ha
    exact Classical.choose_spec (h i hi)
  · cases ha
end Go.Proofs.YteeopgpgbdhmhaaGreat
namespace Go.Proofs.YteeopgpgbdhmhaaGreat
open Go.ChangeShapes Go.WideShapes Go.ChangeAt Go.RowKit
set_option maxRecDepth 20000
set_option linter.constructorNameAsVariable false
variable {H : Type} {enc : TypeId × Value → H} {w : World} {base : Nat} {sp : Nat → Bool} {held : Bool}
theorem openL {α : Type} {C : Cd α} {T : TypeId} {Q : α → Prop} (hT : Tryz.prog.underlying T = some (.slice C.e)) (hc : Tryz.prog.cellsOf C.e = C.sz)
    (rd : ∀ (fuel : Nat) (cs : List Value) (x : DataW H × List MemPlace), DataW.trod enc Tryz.prog w base sp held fuel C.e cs = some x → ∃ a, cs = C.l a ∧ Q a)
    {v : Value} {d : DataW H} {p : List MemPlace} {b0 : Nat} {r : Reach} (hv : Value.okWide Tryz.prog w r b0 T v) (h : DataW.Trod enc Tryz.prog w base sp held T v d p) : ∃ xs : List α, Rs w v xs.length C.sz (C.cs xs) ∧ ∀ x ∈ xs, Q x := by
  obtain ⟨A, len, cap, rfl⟩ := okWide_slice hT hv
  obtain ⟨fuel, hf⟩ := h
  have hpos := C.pos
  rcases DataW.trod_slice hT hf with ⟨hcs, _⟩ | ⟨a, l, c, elems, rest, n, _, hcs, _, hb, hl, hm, hlen, hel, _, _⟩
  · simp [Value.cells] at hcs
    obtain ⟨rfl, rfl, rfl⟩ := hcs
    exact ⟨[], ⟨by simp [Cd.cs], none, 0, rfl, Nat.le_refl _, by omega, fun _ => rfl, by intro j u hu; simp [Cd.cs] at hu⟩, by simp⟩
  · simp [Value.cells] at hcs
    obtain ⟨rfl, rfl, rfl⟩ := hcs
    have each : ∀ i, i < len → ∃ e : α, w.cells? base (a.add (i * C.sz)) C.sz = some (C.l e) ∧ Q e := by
      intro i hi
      have h1 := hel i hi
      rw [hc, List.getElem?_eq_getElem (by omega), Option.bind_eq_some_iff] at h1
      obtain ⟨cs', hcs, hy⟩ := h1
      obtain ⟨e, rfl, ho⟩ := rd _ _ _ hy
      exact ⟨e, hcs, ho⟩
    obtain ⟨es, hn, hes⟩ := choice_list each
    have hm' : maxLen = 9223372036854775807 := rfl
    refine ⟨es, ⟨cs_len es, some a, cap, by rw [hn], by omega, by omega, (by intro e; cases e), ?_⟩, ?_⟩
    · intro j u hu
      have hj : j < es.length * C.sz := by rw [← cs_len]; exact (List.getElem?_eq_some_iff.1 hu).1
      have hi : j / C.sz < es.length := by rw [Nat.div_lt_iff_lt_mul hpos]; exact hj
      have hmod : j % C.sz < C.sz := Nat.mod_lt _ hpos
      have hdm : j / C.sz * C.sz + j % C.sz = j := by rw [Nat.mul_comm]; exact Nat.div_add_mod j C.sz
      obtain ⟨h1, _⟩ := hes (j / C.sz) _ (List.getElem?_eq_getElem hi)
      have h2 := cs_at (C := C) (List.getElem?_eq_getElem hi) (j % C.sz) hmod
      rw [hdm, hu] at h2
      refine ⟨a, rfl, ?_⟩
      have h3 := (World.cells?_some h1).2.2 (j % C.sz) hmod
      rw [add_add', hdm] at h3
      rw [h3]; exact h2.symm
    · intro e he
      obtain ⟨i, hi⟩ := List.getElem?_of_mem he
      exact (hes i e hi).2
variable {v : Value} {d : DataW H} {p : List MemPlace} {b0 : Nat} {r : Reach}
theorem open45 (hv : Value.okWide Tryz.prog w r b0 22 v) (h : DataW.Trod enc Tryz.prog w base sp held 22 v d p) : ∃ ns : List Nm, Ls cN w.heap.size w v ns := by
  obtain ⟨xs, h1, _⟩ := openL (C := cN) (Q := fun _ => True) Tryz.underlying22 cells24 (fun fuel cs x hx => by obtain ⟨a, ha⟩ := rd24 hx; exact ⟨a, ha, trivial⟩) hv h
  exact ⟨xs, h1, fun _ _ => trivial⟩
def SsIn (w : World) (v : Value) (ss : List Sg) : Prop := Ls cS w.heap.size w v ss ∧ ∀ s ∈ ss, s.vote.wf
theorem open46 (hv : Value.okWide Tryz.prog w r b0 23 v) (h : DataW.Trod enc Tryz.prog w base sp held 23 v d p) : ∃ ss : List Sg, SsIn w v ss := by
  obtain ⟨xs, h1, h2⟩ := openL (C := cS) (Q := fun s => s.ok w ∧ s.vote.wf) Tryz.underlying23 cells53 (fun fuel cs x hx => by obtain ⟨a, ha, ho, hw⟩ := rd53 hx; exact ⟨a, ha, ho, hw⟩) hv h
  exact ⟨xs, ⟨h1, fun x hx => (h2 x hx).1.okf (Ext.refl w) (Nat.le_refl _)⟩, fun x hx => (h2 x hx).2⟩
end Go.Proofs.YteeopgpgbdhmhaaGreat
namespace Go.Proofs.YteeopgpgbdhmhaaGreat
open Go.RowKit Go.Lib
set_option linter.unusedVariables false
set_option linter.unusedSimpArgs false
def CutOf {α : Type} (C : Cd α) (v : Value) (xs : List α) (va : Value) (ys : List α) : Prop := (∀ W, Rs W v xs.length C.sz (C.cs xs) → Rs W va ys.length C.sz (C.cs ys)) ∧ (∀ y ∈ ys, y ∈ xs) ∧ ys.length ≤ xs.length
section
variable {α : Type} {C : Cd α} {lo : Nat} {w : World} {v va : Value} {xs ys : List α}
theorem CutOf.refl (C : Cd α) (v : Value) (xs : List α) : CutOf C v xs v xs := ⟨fun _ h => h, fun _ h => h, Nat.le_refl _⟩
theorem Ls.via (h : Ls C lo w v xs) (c : CutOf C v xs va ys) : Ls C lo w va ys := ⟨c.1 w h.1, fun y hy => h.2 y (c.2.1 y hy)⟩
theorem CutOf.cut (c : CutOf C v xs va ys) {i j : Nat} (hij : i ≤ j) (hj : j ≤ ys.length) : CutOf C v xs (cutV va C.sz i j) ((ys.drop i).take (j - i)) := by
  refine ⟨fun W h => ?_, fun y hy => c.2.1 y (List.mem_of_mem_drop (List.mem_of_mem_take hy)), ?_⟩
  · have h1 : Ls ({C with ok := fun _ _ _ => True, okz := fun _ _ => trivial, fb := fun _ _ _ _ _ _ => trivial} : Cd α) 0 W va ys := ⟨c.1 W h, fun _ _ => trivial⟩
    exact (h1.cut hij hj).1
  · have := c.2.2
    rw [List.length_take, List.length_drop]; omega
end
theorem lel_lt0 {α : Type} {C : Cd α} {xs : List α} {j s : Nat} {y : α} (hs : C.sz = s) (k : Nat) (hk : k < s) (hy : xs[j]? = some y) : j * s + k < (C.cs xs).length := by subst hs; exact lel_lt hy hk
theorem lel_ltz {α : Type} {C : Cd α} {xs : List α} {j s : Nat} {y : α} (hs : C.sz = s) (hk : 0 < s) (hy : xs[j]? = some y) : j * s < (C.cs xs).length := by subst hs; exact lel_lt (k := 0) hy hk
theorem verK_sig {keys : List Nm} {x : Sg} (h : verK keys x.p = true) : x.sig.length ≤ 140737488355328 := by
  unfold verK at h
  have h1 := (Bool.and_eq_true_iff.1 h).2
  unfold verP at h1
  unfold ver at h1
  have h2 := of_decide_eq_true (Bool.and_eq_true_iff.1 (Bool.and_eq_true_iff.1 h1).2).1
  have h3 : x.sig.length = 370 := h2
  omega
theorem gext {w w' : World} (g : w.grownBy w' (Value.slice none 0 0).ownBlock) : Ext w w' := ⟨g.1, g.2, g.3, g.4, fun k hk => g.5 k hk (fun e => nomatch (show (none : Option Nat) = some k from e.symm))⟩
theorem Ls.up2 {lo lo' : Nat} {w : World} {v : Value} {xs : List Sg} (h : Ls cS lo w v xs) (hl : lo ≤ lo') : Ls cS lo' w v xs := ⟨h.1, fun x hx => (h.2 x hx).up hl⟩
def cut60 (v : Value) (n : Nat) : Value := if 60 < n then cutV v 23 0 60 else v
theorem cut60_ls {lo : Nat} {w : World} {v : Value} {ss : List Sg} (h : Ls cS lo w v ss) : Ls cS lo w (cut60 v ss.length) (ss.take 60) := by
  unfold cut60
  split
  · have := h.cut (i := 0) (j := 60) (Nat.zero_le _) (by omega)
    rw [List.drop_zero] at this; exact this
  · rw [List.take_of_length_le (by omega)]; exact h
def sLt (a b : List UInt8) : Bool := Op.bytesLess (ByteArray.mk a.toArray).toList (ByteArray.mk b.toArray).toList
def sLe (a b : List UInt8) : Bool := sLt a b || (ByteArray.mk a.toArray).toList == (ByteArray.mk b.toArray).toList
section
variable {P : Program} {ρ : Operand → Value} {w : World} {dst : Option Tmp} {ty : TypeId} {pos : String} {aft : Array Edge} {gd : Option (Nat × Bool)}
theorem R_leqStr {x y : Operand} {a b : List UInt8} {t t' : TypeId} (hx : ρ x = strV a) (hy : ρ y = strV b) : (execOp ρ ⟨dst, .binOp .leq t x y t', ty, pos, aft, gd⟩).run Tryz.prog w = .ok (.value (.bool (sLe a b))) w := by
  simp only [execOp, hx, hy]
  rfl
end
section
variable {P : Program} {ops : Array Oper} {Q : Exit → Act → World → Prop} {K : Act → World → Prop} {n : Nat} {f : Nat → Value} {w : World} {d : Option Tmp} {ty : TypeId} {pos : String} {aft : Array Edge}
end
theorem OwnB.take {w : World} {lo : Nat} {v : Value} {b : List UInt8} (h : OwnB w lo v b) {j : Nat} (hj : j ≤ b.length) : OwnB w lo (cutV v 1 0 j) (((b).drop 0).take (j - 0)) := by
  obtain ⟨hl, ⟨rfl, h0⟩ | ⟨g, cap, cur, rfl, hg, hb, h1, h2, h3, h4⟩⟩ := h
  · obtain rfl : b = [] := List.eq_nil_of_length_eq_zero h0
    obtain rfl : j = 0 := by simpa using hj
    exact OwnB.nil w lo
  · refine ⟨by simp [bl_len], .inr ⟨g, cap, cur, ?_, hg, hb, ?_, h2, h3, ?_⟩⟩
    · simp only [cutV, List.drop_zero, List.length_take, Nat.sub_zero, Nat.zero_mul]
      rw [Nat.min_eq_left hj]
      by_cases hc : cap = 0
      · rw [if_pos hc]
      · rw [if_neg hc]; rfl
    · simp only [List.drop_zero, List.length_take, Nat.sub_zero]; omega
    · simp only [List.drop_zero, Nat.sub_zero, List.length_take, Nat.mul_one, Nat.min_eq_left hj] at h4 ⊢
      have e : cur.toList.take j = (cur.toList.take b.length).take j := by rw [List.take_take, Nat.min_eq_left hj]
      rw [e, h4]; simp [bl, List.map_take]
end Go.Proofs.YteeopgpgbdhmhaaGreat
namespace Go.Proofs.YteeopgpgbdhmhaaGreat
open Go.RowKit Go.Lib
set_option linter.unusedVariables false
set_option linter.unusedSimpArgs false
section
variable {P : Program} {ρ : Operand → Value} {w : World} {dst : Option Tmp} {ty : TypeId} {pos : String} {aft : Array Edge} {gd : Option (Nat × Bool)}
theorem R_mkI {x : Operand} {v : Value} {t e : TypeId} (ht : P.underlying t = some (.slice e)) (hx : ρ x = v) : (execOp ρ ⟨dst, .makeInterface t x, ty, pos, aft, gd⟩).run P w = .ok (.value (.iface t v)) w := by
  simp [execOp, hx, Instr.makeInterface, run_underlying ht]
theorem R_mkF1 {x : Operand} {v : Value} {F : Fn} (hx : ρ x = v) : (execOp ρ ⟨dst, .makeFunc F #[] #[x], ty, pos, aft, gd⟩).run P w = .ok (.value (.func F #[] #[v])) w := by
  simp [execOp, hx, Instr.makeFunc]
end
theorem rs_pl {w : World} {v : Value} {m sz : Nat} {cs : List Value} (h : Rs w v m sz cs) : plainV v = true := by
  obtain ⟨_, A, c, rfl, _⟩ := h; rfl
theorem fillp {xs ys : List Sg} {i : Nat} {y : Sg} (h : (ys.take i).map Sg.p = (xs.take i).map Sg.p) (hl : ys.length = xs.length) (lk : i < xs.length) (hy : y.p = (xs.getD i Sg.zero).p) : ((ys.set i y).take (i + 1)).map Sg.p = (xs.take (i + 1)).map Sg.p := by
  have hi : i < ys.length := by omega
  have e1 : (ys.set i y).take (i + 1) = ys.take i ++ [y] := by
    apply List.ext_getElem?
    intro k
    rw [List.getElem?_take, List.getElem?_set]
    rcases Nat.lt_trichotomy k i with hk | hk | hk
    · rw [if_pos (by omega), if_neg (by omega), List.getElem?_append_left (by rw [List.length_take]; omega), List.getElem?_take, if_pos hk]
    · subst hk; rw [if_pos (by omega), if_pos rfl, if_pos hi, List.getElem?_append_right (by rw [List.length_take]; omega), List.length_take, Nat.min_eq_left (by omega), Nat.sub_self]; rfl
    · rw [if_neg (by omega), List.getElem?_eq_none (by rw [List.length_append, List.length_take, List.length_singleton]; omega)]
  rw [e1, List.map_append, h, List.take_add_one, List.map_append, List.getElem?_eq_getElem lk]
  have e2 : xs.getD i Sg.zero = xs[i] := by simp [List.getD, lk]
  rw [e2] at hy
  simp [hy]
def ddn (zs : List Sg) : Nat → List Sg
  | 0 => []
  | k + 1 => if k = 0 ∨ (zs.getD k Sg.zero).vote ≠ (zs.getD (k - 1) Sg.zero).vote then ddn zs k ++ [zs.getD k Sg.zero] else ddn zs k
theorem ddn_len (zs : List Sg) : ∀ k, (ddn zs k).length ≤ k
  | 0 => Nat.le_refl _
  | k + 1 => by
    have := ddn_len zs k
    rw [ddn]; split
    · rw [List.length_append, List.length_singleton]; omega
    · omega
theorem ddn_y {zs ys : List Sg} {k : Nat} (h : ys = ddn zs k) (hc : k = 0 ∨ (zs.getD k Sg.zero).vote ≠ (zs.getD (k - 1) Sg.zero).vote) : ys ++ [zs.getD k Sg.zero] = ddn zs (k + 1) := by rw [ddn, if_pos hc, h]
theorem ddn_n {zs ys : List Sg} {k : Nat} (h : ys = ddn zs k) (hc : ¬ (k = 0 ∨ (zs.getD k Sg.zero).vote ≠ (zs.getD (k - 1) Sg.zero).vote)) : ys = ddn zs (k + 1) := by rw [ddn, if_neg hc, h]
end Go.Proofs.YteeopgpgbdhmhaaGreat
namespace Go.Proofs.YteeopgpgbdhmhaaGreat
open Go.RowKit
set_option linter.unusedVariables false
set_option linter.unusedSimpArgs false
attribute [local irreducible] wpList wpO H wpQuiet wpStill Code.wp Exit.then Exit.inBlock bodyPost Code.rounds Calls valid sameKey conflict lessV hless num between
set_option maxRecDepth 4000 in
set_option maxHeartbeats 2000000 in
theorem c57 (lo : Nat) (v : Value) (xs : List Sg) (w : World) (hlo : lo ≤ w.heap.size) (hn : xs.length ≤ 1000000) (h : Ls cS lo w v xs) (hsl : ∀ x ∈ xs, x.sig.length ≤ 140737488355328) : Calls Tryz.prog 24 [v].toArray w (RetE w fun r w' => ∃ ys, Ow cS lo w.heap.size w' r ys ∧ ∃ zs : List Sg, zs.length = xs.length ∧ (∀ p, p ∈ zs.map Sg.p ↔ p ∈ xs.map Sg.p) ∧ srtL zs ∧ ys = ddn zs zs.length) := by
  refine enter Tryz.func24 Tryz.ntmps24 rfl rfl ?_
  have hE := Ext.refl w
  refine wp_seq ?_
  refine W_region ?_
  refine L (D_v (R_assign rfl) ?_)
  refine S_nil ?_
  refine T_tn ?_
  refine wp_seq ?_
  refine W_region ?_
  refine L (D_v (R_move rfl) ?_)
  refine L (D_v (R_len Tryz.underlying23 rfl (h.ext hE).1) ?_)
  refine L (D_makeL (C := cS) (lo := lo) (l := (xs).length) (c := (xs).length) mk53 Tryz.underlying23 rfl rfl (by (try simp only [List.length_take, List.length_drop, List.length_append, List.length_cons, List.length_nil, List.length_replicate, List.length_set, Nm.b_len, be2_len]); omega) (by (try simp only [List.length_take, List.length_drop, List.length_append, List.length_cons, List.length_nil, List.length_replicate, List.length_set, Nm.b_len, be2_len]); omega) (by (try simp only [List.length_take, List.length_drop, List.length_append, List.length_cons, List.length_nil, List.length_replicate, List.length_set, Nm.b_len, be2_len]); omega) (fun v2_2 w2_2 o2_2 e2_2 => ?_))
  replace o2_2 := o2_2.low hE.size
  replace hE := hE.trans e2_2
  refine L (D_alloc (c := [(Value.slice none 0 0)]) Tryz.zeroValue23 rfl (fun aB2_3 w2_3 e2_3 gB2_3 hB2_3 => ?_))
  have lB2_3 := Nat.le_trans hE.size gB2_3
  replace hE := hE.trans e2_3
  replace o2_2 := o2_2.ext e2_3
  have xo2_2 := own_neB o2_2.1 hB2_3 rfl
  have h0 := hB2_3
  refine L (D_store1 Tryz.sizeOf23 hB2_3 rfl rfl (rs_pl o2_2.ls.1) rfl (fun w2_4 k2_4 (hB2_3 : Blk w2_4 aB2_3 [v2_2] 23) => ?_))
  have f2_4 := Fb.kp k2_4 (Nat.le_trans hlo lB2_3) (Blk.notB h0 rfl)
  replace hE := hE.kp k2_4 lB2_3
  replace o2_2 := o2_2.kp k2_4 xo2_2 f2_4
  refine S_nil ?_
  refine T_tn ?_
  refine wp_seq ?_
  refine wp_seq ?_
  refine W_region ?_
  refine L (D_v (R_move rfl) ?_)
  refine L (D_v (R_len Tryz.underlying23 rfl (h.ext hE).1) ?_)
  refine L (D_v (R_move rfl) ?_)
  refine S_nil ?_
  refine T_tn ?_
  refine wp_block ?_
  refine W_loop (fun mz g W => ∃ (i : Nat) (ys : List Sg), mz = xs.length - i ∧ g 3 = .pointer (some ⟨aB2_3, 0, none⟩) ∧ g 12 = v ∧ g 13 = i64 (((xs).length : Nat) : Int) ∧ g 14 = i64 ((i : Nat) : Int) ∧ Ext w W ∧ Blk W aB2_3 [v2_2] 23 ∧ Ow cS lo w.heap.size W v2_2 ys ∧ i ≤ xs.length ∧ ys.length = xs.length ∧ (ys.take i).map Sg.p = (xs.take i).map Sg.p) ⟨0, _, rfl, rfl, rfl, rfl, rfl, hE, hB2_3, o2_2, (Nat.zero_le _), (by simp), (by simp)⟩ ?_
  rintro mz f4 w4l ⟨i, ys, hm, q3, q12, q13, q14, hE, hB2_3, ov2_2, hi, hyl, hyp⟩
  refine wp_seq ?_
  refine W_region ?_
  refine L (D_v (R_lssI q14 q13) ?_)
  refine S_nil ?_
  refine T_tn ?_
  refine wp_seq ?_
  refine W_if rfl (fun c1 => ?_) (fun c1 => ?_)
  ·
    have lk : i < xs.length := by simp at c1; omega
    have hsi := hsl _ (List.getElem_mem (by exact lk))
    have hgd : xs.getD i Sg.zero = xs[i] := by simp [List.getD, lk]
    rw [← hgd] at hsi
    refine wp_skip ?_
    refine T_tn ?_
    refine wp_seq ?_
    refine wp_block ?_
    refine wp_seq ?_
    refine W_region ?_
    refine L (D_v (R_move q14) ?_)
    refine L (D_v (R_elAddr (i := i) Tryz.underlying23 Tryz.sizeOf34 q12 q14 (h.ext hE).1 (by (try simp only [List.length_take, List.length_drop, List.length_append, List.length_cons, List.length_nil, List.length_replicate, List.length_set, Nm.b_len, be2_len]); omega)) ?_)
    have k6_2 := ((h.ext hE)).get (getD_some (d := Sg.zero) (by (try simp only [List.length_take, List.length_drop, List.length_append, List.length_cons, List.length_nil, List.length_replicate, List.length_set, Nm.b_len, be2_len]); omega))
    refine L (D_v (R_ldL (C := cS) (i := i) (y := ((xs).getD (i) Sg.zero)) Tryz.isAgg34 Tryz.sizeOf34 rfl (h.ext hE) (getD_some (d := Sg.zero) (by (try simp only [List.length_take, List.length_drop, List.length_append, List.length_cons, List.length_nil, List.length_replicate, List.length_set, Nm.b_len, be2_len]); omega))) ?_)
    refine L (D_alloc (c := (Sg.zero).l) Tryz.zeroValue34 rfl (fun aB6_3 w6_3 e6_3 gB6_3 hB6_3 => ?_))
    have lB6_3 := Nat.le_trans hE.size gB6_3
    have nB2_3B6_3 := hB2_3.ne gB6_3
    have yv2_2_B6_3 : Value.ownBlock v2_2 ≠ some aB6_3 := fun hk => absurd (own_lt ov2_2.1 hk) (Nat.not_lt.2 gB6_3)
    replace hE := hE.trans e6_3
    replace hB2_3 := hB2_3.ext e6_3
    replace ov2_2 := ov2_2.ext e6_3
    replace k6_2 := k6_2.fb (Fb.ext e6_3)
    refine L (D_v (R_assign rfl) ?_)
    have xov2_2 := yv2_2_B6_3
    have h0 := hB6_3
    refine L (D_storeA Tryz.sizeOf34 hB6_3 rfl rfl rfl rfl rfl (l' := (((xs).getD (i) Sg.zero)).l) rfl (fun w6_5 k6_5 hB6_3 => ?_))
    have f6_5 := Fb.kp k6_5 (Nat.le_trans hlo lB6_3) (Blk.notB h0 rfl)
    replace hE := hE.kp k6_5 lB6_3
    replace hB2_3 := hB2_3.kp k6_5 nB2_3B6_3
    replace ov2_2 := ov2_2.kp k6_5 xov2_2 f6_5
    replace k6_2 := k6_2.fb f6_5
    refine S_nil ?_
    refine T_tn ?_
    refine W_held (fun W => Ext w W ∧ Blk W aB2_3 [v2_2] 23 ∧ Blk W aB6_3 (((xs).getD (i) Sg.zero)).l 34 ∧ Sg.okf lo W (((xs).getD (i) Sg.zero)) ∧ True) mixed (fun w7_99 e7_99 => ?_)
    replace hE := hE.trans e7_99
    replace hB2_3 := hB2_3.ext e7_99
    replace hB6_3 := hB6_3.ext e7_99
    replace ov2_2 := ov2_2.ext e7_99
    replace k6_2 := k6_2.fb (Fb.ext e7_99)
    refine H_take (i := 0) rfl (by kernel_rfl) (by kernel_rfl) (by kernel_rfl) rfl (pq_block (pq_then (pq_then (pq_block (pq_then pq_body))))) ⟨hE, hB2_3, hB6_3, k6_2, trivial⟩ rfl (fun w hw => R_load Tryz.isAgg23 hw.2.1 q3 rfl) ?_
    refine H_take (i := 1) rfl (by kernel_rfl) (by kernel_rfl) (by kernel_rfl) rfl (pq_block (pq_then (pq_then (pq_block (pq_then pq_body))))) ⟨hE, hB2_3, hB6_3, k6_2, trivial⟩ rfl (fun w hw => R_move rfl) ?_
    refine H_take (i := 2) rfl (by kernel_rfl) (by kernel_rfl) (by kernel_rfl) rfl (pq_block (pq_then (pq_then (pq_block (pq_then pq_body))))) ⟨hE, hB2_3, hB6_3, k6_2, trivial⟩ rfl (fun w hw => R_fieldAddr Tryz.runUnderlying34 rfl Tryz.sizeOf31 rfl) ?_
    refine H_take (i := 3) rfl (by kernel_rfl) (by kernel_rfl) (by kernel_rfl) rfl (pq_block (pq_then (pq_then (pq_block (pq_then pq_body))))) ⟨hE, hB2_3, hB6_3, k6_2, trivial⟩ rfl (fun w hw => R_loadA (c := ((((xs).getD (i) Sg.zero)).vote).l) Tryz.isAgg31 Tryz.sizeOf31 hw.2.2.1 rfl rfl rfl) ?_
    refine H_take (i := 4) rfl (by kernel_rfl) (by kernel_rfl) (by kernel_rfl) rfl (pq_block (pq_then (pq_then (pq_block (pq_then pq_body))))) ⟨hE, hB2_3, hB6_3, k6_2, trivial⟩ rfl (fun w hw => R_fieldAddr Tryz.runUnderlying34 rfl Tryz.sizeOf32 rfl) ?_
    refine H_take (i := 5) rfl (by kernel_rfl) (by kernel_rfl) (by kernel_rfl) rfl (pq_block (pq_then (pq_then (pq_block (pq_then pq_body))))) ⟨hE, hB2_3, hB6_3, k6_2, trivial⟩ rfl (fun w hw => R_load Tryz.isAgg32 hw.2.2.1 rfl rfl) ?_
    refine H_op (i := 6) (by kernel_rfl) rfl rfl (D_callE (R_callF Tryz.call45 rfl rfl) (c86_0 (.slice (((xs).getD (i) Sg.zero)).A (((xs).getD (i) Sg.zero)).n (((xs).getD (i) Sg.zero)).c) ((((xs).getD (i) Sg.zero)).sig) _ _ k6_2.bs (by simp only [List.length_nil, Nat.add_zero, Nat.zero_add]; omega)) (fun v7_6 w7_6 e7_6 p7_6 => ?_))
    have o7_6 := p7_6
    replace o7_6 := o7_6.lo hE.size
    replace hE := hE.trans e7_6
    replace hB2_3 := hB2_3.ext e7_6
    replace hB6_3 := hB6_3.ext e7_6
    replace ov2_2 := ov2_2.ext e7_6
    replace k6_2 := k6_2.fb (Fb.ext e7_6)
    refine ⟨⟨hE, hB2_3, hB6_3, k6_2, trivial⟩, ?_⟩
    have k7_7 : Sg.okf lo w7_6 (mkSg ((((xs).getD (i) Sg.zero)).vote) v7_6 (((xs).getD (i) Sg.zero)).sig) := mkSg_ok _ (Bf.own o7_6)
    refine H_op (i := 7) (by kernel_rfl) rfl rfl (D_v (R_buildS (vs := [(0, .agg ((((xs).getD (i) Sg.zero)).vote).l.toArray), (1, v7_6)]) (c := (mkSg ((((xs).getD (i) Sg.zero)).vote) v7_6 (((xs).getD (i) Sg.zero)).sig).l) Tryz.runUnderlying34 places53 Tryz.zeroValue34 (mapp2 rfl rfl) (fill53 _ o7_6.bs)) ⟨⟨hE, hB2_3, hB6_3, k6_2, trivial⟩, ?_⟩)
    refine H_op (i := 8) (by kernel_rfl) rfl rfl (D_v (R_elAddr (i := i) Tryz.underlying23 Tryz.sizeOf34 rfl rfl ov2_2.ls.1 (by (try simp only [List.length_take, List.length_drop, List.length_append, List.length_cons, List.length_nil, List.length_replicate, List.length_set, Nm.b_len, be2_len]); omega)) ⟨⟨hE, hB2_3, hB6_3, k6_2, trivial⟩, ?_⟩)
    refine H_op (i := 9) (by kernel_rfl) rfl rfl (D_stL (C := cS) (i := i) (c := (mkSg ((((xs).getD (i) Sg.zero)).vote) v7_6 (((xs).getD (i) Sg.zero)).sig)) (by decide) Tryz.sizeOf34 rfl rfl ov2_2 hlo (by (try simp only [List.length_take, List.length_drop, List.length_append, List.length_cons, List.length_nil, List.length_replicate, List.length_set, Nm.b_len, be2_len]); omega) k7_7 (fun w7_9 o7_9 g7_9 f7_9 => ?_))
    replace hE := hE.grown g7_9 (fun k hk => own_ge ov2_2.1 hk)
    replace hB2_3 := hB2_3.grown g7_9 (own_neB ov2_2.1 hB2_3 rfl)
    replace hB6_3 := hB6_3.grown g7_9 (yv2_2_B6_3)
    replace o7_6 := o7_6.grown g7_9 (own_ne o7_6 ov2_2.1 rfl)
    replace k6_2 := k6_2.fb f7_9
    replace k7_7 := k7_7.fb f7_9
    refine ⟨⟨hE, hB2_3, hB6_3, k6_2, trivial⟩, ?_⟩
    refine H_done (by kernel_rfl) ?_
    refine T_bn ?_
    refine T_tn ?_
    refine W_region ?_
    refine L (D_v (R_addN (m := i) (j := 1) q14 rfl (by (try simp only [List.length_take, List.length_drop, List.length_append, List.length_cons, List.length_nil, List.length_replicate, List.length_set, Nm.b_len, be2_len]); omega)) ?_)
    refine L (D_v (R_move rfl) ?_)
    refine S_nil ?_
    refine T_tn ?_
    refine ⟨_, _, ?_, rfl, i + 1, _, rfl, q3, q12, q13, rfl, hE, hB2_3, o7_9, ?_, ?_, ?_⟩
    all_goals first | omega | (simp only [List.length_set]; exact hyl) | exact fillp hyp hyl lk rfl
  ·
    obtain rfl : i = xs.length := by have h9 := of_decide_eq_false c1; omega
    refine wp_exit ?_
    refine T_te ?_
    refine T_te ?_
    refine T_be ?_
    refine T_tn ?_
    refine wp_seq ?_
    refine W_region ?_
    refine L (D_v (R_load Tryz.isAgg23 hB2_3 q3 rfl) ?_)
    refine L (D_v (R_mkI Tryz.underlying23 rfl) ?_)
    refine L (D_v (R_mkF1 q3) ?_)
    refine L (D_callS (R_callF Tryz.call46 rfl rfl) (sort46 ov2_2 hlo hB2_3 (by omega)) (fun w6_3 p6_3 => ?_))
    obtain ⟨g6_3, f6_3, zs6_3, o6_3, hzl, hzm, hzs⟩ := p6_3
    replace hE := hE.grown g6_3 (fun k hk => own_ge ov2_2.1 hk)
    replace hB2_3 := hB2_3.grown g6_3 (own_neB ov2_2.1 hB2_3 rfl)
    refine S_nil ?_
    refine T_tn ?_
    refine wp_seq ?_
    refine W_region ?_
    refine L (D_v (R_assign rfl) ?_)
    refine S_nil ?_
    refine T_tn ?_
    refine wp_seq ?_
    refine wp_seq ?_
    refine W_region ?_
    refine L (D_v (R_load Tryz.isAgg23 hB2_3 q3 rfl) ?_)
    refine L (D_v (R_len Tryz.underlying23 rfl o6_3.ls.1) ?_)
    refine L (D_v (R_move rfl) ?_)
    refine S_nil ?_
    refine T_tn ?_
    refine wp_block ?_
    refine W_loop (fun mz g W => ∃ (k : Nat) (us : List Sg) (r6 : Value), mz = zs6_3.length - k ∧ g 3 = .pointer (some ⟨aB2_3, 0, none⟩) ∧ g 6 = r6 ∧ g 33 = v2_2 ∧ g 34 = i64 (((zs6_3).length : Nat) : Int) ∧ g 35 = i64 ((k : Nat) : Int) ∧ Ext w W ∧ Blk W aB2_3 [v2_2] 23 ∧ Ow cS lo w.heap.size W v2_2 zs6_3 ∧ Ow cS lo w.heap.size W r6 us ∧ (∀ k, Value.ownBlock v2_2 = some k → Value.ownBlock r6 ≠ some k) ∧ k ≤ zs6_3.length ∧ us = ddn zs6_3 k) ⟨0, [], _, rfl, q3, rfl, rfl, rfl, rfl, hE, hB2_3, o6_3, (Ow.nil cS lo _ _), (fun k _ h => nomatch (show (none : Option Nat) = some _ from h)), (Nat.zero_le _), rfl⟩ ?_
    rintro mz f9 w9l ⟨k, us, r6, hm, q3, q6, q33, q34, q35, hE, hB2_3, ov2_2, or6, zv2_2_r6, hk, hu⟩
    have hul := ddn_len zs6_3 k
    rw [← hu] at hul
    refine wp_seq ?_
    refine W_region ?_
    refine L (D_v (R_lssI q35 q34) ?_)
    refine S_nil ?_
    refine T_tn ?_
    refine wp_seq ?_
    refine W_if rfl (fun c2 => ?_) (fun c2 => ?_)
    ·
      have lk : k < zs6_3.length := by simp at c2; omega
      refine wp_skip ?_
      refine T_tn ?_
      refine wp_seq ?_
      refine wp_block ?_
      refine wp_seq ?_
      refine W_region ?_
      refine L (D_v (R_move q35) ?_)
      refine L (D_v (R_elAddr (i := k) Tryz.underlying23 Tryz.sizeOf34 q33 q35 ov2_2.ls.1 (by (try simp only [List.length_take, List.length_drop, List.length_append, List.length_cons, List.length_nil, List.length_replicate, List.length_set, Nm.b_len, be2_len]); omega)) ?_)
      have k11_2 := (ov2_2.ls).get (getD_some (d := Sg.zero) (by (try simp only [List.length_take, List.length_drop, List.length_append, List.length_cons, List.length_nil, List.length_replicate, List.length_set, Nm.b_len, be2_len]); omega))
      refine L (D_v (R_ldL (C := cS) (i := k) (y := ((zs6_3).getD (k) Sg.zero)) Tryz.isAgg34 Tryz.sizeOf34 rfl ov2_2.ls (getD_some (d := Sg.zero) (by (try simp only [List.length_take, List.length_drop, List.length_append, List.length_cons, List.length_nil, List.length_replicate, List.length_set, Nm.b_len, be2_len]); omega))) ?_)
      refine L (D_alloc (c := (Sg.zero).l) Tryz.zeroValue34 rfl (fun aB11_3 w11_3 e11_3 gB11_3 hB11_3 => ?_))
      have lB11_3 := Nat.le_trans hE.size gB11_3
      have nB2_3B11_3 := hB2_3.ne gB11_3
      have yv2_2_B11_3 : Value.ownBlock v2_2 ≠ some aB11_3 := fun hk => absurd (own_lt ov2_2.1 hk) (Nat.not_lt.2 gB11_3)
      have yr6_B11_3 : Value.ownBlock r6 ≠ some aB11_3 := fun hk => absurd (own_lt or6.1 hk) (Nat.not_lt.2 gB11_3)
      replace hE := hE.trans e11_3
      replace hB2_3 := hB2_3.ext e11_3
      replace ov2_2 := ov2_2.ext e11_3
      replace or6 := or6.ext e11_3
      replace k11_2 := k11_2.fb (Fb.ext e11_3)
      refine L (D_v (R_assign rfl) ?_)
      have xov2_2 := yv2_2_B11_3
      have xor6 := yr6_B11_3
      have h0 := hB11_3
      refine L (D_storeA Tryz.sizeOf34 hB11_3 rfl rfl rfl rfl rfl (l' := (((zs6_3).getD (k) Sg.zero)).l) rfl (fun w11_5 k11_5 hB11_3 => ?_))
      have f11_5 := Fb.kp k11_5 (Nat.le_trans hlo lB11_3) (Blk.notB h0 rfl)
      replace hE := hE.kp k11_5 lB11_3
      replace hB2_3 := hB2_3.kp k11_5 nB2_3B11_3
      replace ov2_2 := ov2_2.kp k11_5 xov2_2 f11_5
      replace or6 := or6.kp k11_5 xor6 f11_5
      replace k11_2 := k11_2.fb f11_5
      refine S_nil ?_
      refine T_tn ?_
      refine wp_seq ?_
      refine W_draw mixed (by kernel_rfl) ?_
      refine Q_v (fun w hw => R_move rfl) ?_
      refine Q_v (fun w hw => R_eqlI rfl rfl) ?_
      refine Q_v (fun w hw => R_move rfl) ?_
      refine Q_g1 rfl rfl (fun hb w hw => R_fieldAddr Tryz.runUnderlying34 rfl Tryz.sizeOf31 rfl) ?_
      refine Q_g1 rfl rfl (fun hb w hw => R_loadA (c := ((((zs6_3).getD (k) Sg.zero)).vote).l) Tryz.isAgg31 Tryz.sizeOf31 (hB11_3.ext hw) (cgE hb) rfl rfl) ?_
      refine Q_g1 rfl rfl (fun hb w hw => R_load Tryz.isAgg23 (hB2_3.ext hw) q3 rfl) ?_
      refine Q_g1 rfl rfl (fun hb w hw => R_move rfl) ?_
      refine Q_g1 rfl rfl (fun hb w hw => R_subN (m := k) (j := 1) (cgE hb) rfl (by first | ((try simp only [List.length_take, List.length_drop, List.length_append, List.length_cons, List.length_nil]); omega) | (simp at hb; omega)) (by first | ((try simp only [List.length_take, List.length_drop, List.length_append, List.length_cons, List.length_nil]); omega) | (simp at hb; omega))) ?_
      refine Q_g1 rfl rfl (fun hb w hw => R_elAddr (i := (k - 1)) Tryz.underlying23 Tryz.sizeOf34 (cgE hb) (cgE hb) (ov2_2.ls.ext hw).1 (by first | ((try simp only [List.length_take, List.length_drop, List.length_append, List.length_cons, List.length_nil]); omega) | (simp at hb; omega))) ?_
      refine Q_g1 rfl rfl (fun hb w hw => R_fieldEl (k := (k - 1) * 23) Tryz.runUnderlying34 rfl Tryz.sizeOf31 (ov2_2.ls.ext hw).1 (lel_ltz (C := cS) (s := 23) rfl (by decide) (getD_some (d := Sg.zero) (by first | ((try simp only [List.length_take, List.length_drop, List.length_append, List.length_cons, List.length_nil]); omega) | (simp at hb; omega)))) (cgE hb)) ?_
      refine Q_g1 rfl rfl (fun hb w hw => R_ldP (C := cS) (i := (k - 1)) (k := 0) (y := ((zs6_3).getD ((k - 1)) Sg.zero)) (c := ((((zs6_3).getD ((k - 1)) Sg.zero)).vote).l) Tryz.isAgg31 Tryz.sizeOf31 (cgE hb) (ov2_2.ls.ext hw) (getD_some (d := Sg.zero) (by first | ((try simp only [List.length_take, List.length_drop, List.length_append, List.length_cons, List.length_nil]); omega) | (simp at hb; omega))) (by decide) (by decide) rfl) ?_
      refine Q_g1 rfl rfl (fun hb w hw => R_neqA Tryz.eqGuardType31 (eq26 ((((zs6_3).getD (k) Sg.zero)).vote) ((((zs6_3).getD ((k - 1)) Sg.zero)).vote) _) (cgE hb) (cgE hb)) ?_
      refine Q_v (fun w hw => R_pickO rfl rfl rfl) ?_
      refine Q_nil (fun w12_99 e12_99 => ?_)
      replace hE := hE.trans e12_99
      replace hB2_3 := hB2_3.ext e12_99
      replace hB11_3 := hB11_3.ext e12_99
      replace ov2_2 := ov2_2.ext e12_99
      replace or6 := or6.ext e12_99
      replace k11_2 := k11_2.fb (Fb.ext e12_99)
      refine T_tn ?_
      refine W_if rfl (fun c3 => ?_) (fun c3 => ?_)
      ·
        have hc9 := c3
        refine W_region ?_
        refine L (D_v (R_move q6) ?_)
        refine L (D_v (R_loadA (c := (((zs6_3).getD (k) Sg.zero)).l) Tryz.isAgg34 Tryz.sizeOf34 hB11_3 rfl rfl rfl) ?_)
        refine L (D_buildL1 (C := cS) (lo := lo) (y := ((zs6_3).getD (k) Sg.zero)) Tryz.underlying23 Tryz.sizeOf34 Tryz.zeroValue34 (mapp1 rfl) (by decide) k11_2 (fun v13_2 w13_2 o13_2 e13_2 => ?_))
        have yv13_2_B11_3 : Value.ownBlock v13_2 ≠ some aB11_3 := fun hk => absurd (own_ge o13_2.1 hk) (Nat.not_le.2 hB11_3.lt)
        have zv2_2_v13_2 := own_apart ov2_2.1 o13_2.1
        have zv13_2_v2_2 := fun k hk hk2 => zv2_2_v13_2 k hk2 hk
        have zr6_v13_2 := own_apart or6.1 o13_2.1
        have zv13_2_r6 := fun k hk hk2 => zr6_v13_2 k hk2 hk
        replace o13_2 := o13_2.low hE.size
        replace hE := hE.trans e13_2
        replace hB2_3 := hB2_3.ext e13_2
        replace hB11_3 := hB11_3.ext e13_2
        replace ov2_2 := ov2_2.ext e13_2
        replace or6 := or6.ext e13_2
        replace k11_2 := k11_2.fb (Fb.ext e13_2)
        refine L (D_appendL elt53 Tryz.underlying23 rfl rfl or6 hlo o13_2.ls (by (try simp only [List.length_take, List.length_drop, List.length_append, List.length_cons, List.length_nil, List.length_replicate, List.length_set, Nm.b_len, be2_len]); omega) (by (try simp only [List.length_take, List.length_drop, List.length_append, List.length_cons, List.length_nil, List.length_replicate, List.length_set, Nm.b_len, be2_len]); omega) hE.size (fun v13_3 w13_3 o13_3 g13_3 f13_3 sv13_3 => ?_))
        have yv13_3_B11_3 : Value.ownBlock v13_3 ≠ some aB11_3 := fun hk => (sv13_3 _ hk).elim yr6_B11_3 (fun h => absurd h (Nat.not_le.2 hB11_3.lt))
        have zv2_2_v13_3 : ∀ k, Value.ownBlock v2_2 = some k → Value.ownBlock v13_3 ≠ some k := fun k hk2 hk => (sv13_3 _ hk).elim (fun h => zv2_2_r6 k hk2 h) (fun h => absurd h (Nat.not_le.2 (own_lt ov2_2.1 hk2)))
        have zv13_3_v2_2 := fun k hk hk2 => zv2_2_v13_3 k hk2 hk
        have zv13_2_v13_3 : ∀ k, Value.ownBlock v13_2 = some k → Value.ownBlock v13_3 ≠ some k := fun k hk2 hk => (sv13_3 _ hk).elim (fun h => zv13_2_r6 k hk2 h) (fun h => absurd h (Nat.not_le.2 (own_lt o13_2.1 hk2)))
        have zv13_3_v13_2 := fun k hk hk2 => zv13_2_v13_3 k hk2 hk
        replace hE := hE.grown g13_3 (fun k hk => own_ge or6.1 hk)
        replace hB2_3 := hB2_3.grown g13_3 (own_neB or6.1 hB2_3 rfl)
        replace hB11_3 := hB11_3.grown g13_3 (yr6_B11_3)
        replace ov2_2 := ov2_2.grown g13_3 (zv2_2_r6) f13_3
        replace o13_2 := o13_2.grown g13_3 (zv13_2_r6) f13_3
        replace k11_2 := k11_2.fb f13_3
        refine L (D_v (R_assign rfl) ?_)
        refine S_nil ?_
        refine T_bn ?_
        refine T_tn ?_
        refine W_region ?_
        refine L (D_v (R_addN (m := k) (j := 1) q35 rfl (by (try simp only [List.length_take, List.length_drop, List.length_append, List.length_cons, List.length_nil, List.length_replicate, List.length_set, Nm.b_len, be2_len]); omega)) ?_)
        refine L (D_v (R_move rfl) ?_)
        refine S_nil ?_
        refine T_tn ?_
        refine ⟨_, _, ?_, rfl, k + 1, _, _, rfl, q3, rfl, q33, q34, rfl, hE, hB2_3, ov2_2, o13_3, zv2_2_v13_3, ?_, ?_⟩
        all_goals first | omega | exact ddn_y hu (by (try simp at hc9); first | exact hc9 | omega) | exact ddn_n hu (by (try simp at hc9); first | exact hc9 | (simp; exact hc9))
      ·
        have hc9 := c3
        refine wp_skip ?_
        refine T_bn ?_
        refine T_tn ?_
        refine W_region ?_
        refine L (D_v (R_addN (m := k) (j := 1) q35 rfl (by (try simp only [List.length_take, List.length_drop, List.length_append, List.length_cons, List.length_nil, List.length_replicate, List.length_set, Nm.b_len, be2_len]); omega)) ?_)
        refine L (D_v (R_move rfl) ?_)
        refine S_nil ?_
        refine T_tn ?_
        refine ⟨_, _, ?_, rfl, k + 1, _, _, rfl, q3, q6, q33, q34, rfl, hE, hB2_3, ov2_2, or6, zv2_2_r6, ?_, ?_⟩
        all_goals first | omega | exact ddn_y hu (by (try simp at hc9); first | exact hc9 | omega) | exact ddn_n hu (by (try simp at hc9); first | exact hc9 | (simp; exact hc9))
    ·
      obtain rfl : k = zs6_3.length := by have h9 := of_decide_eq_false c2; omega
      refine wp_exit ?_
      refine T_te ?_
      refine T_te ?_
      refine T_be ?_
      refine T_tn ?_
      refine wp_seq ?_
      refine W_region ?_
      refine L (D_v (R_move q6) ?_)
      refine L (D_v (R_assign rfl) ?_)
      refine S_nil ?_
      refine T_tn ?_
      refine wp_ret ?_
      refine ret1 (v := r6) rfl rfl ⟨_, rfl, hE, ?_⟩
      exact ⟨_, or6, zs6_3, by omega, fun p => by rw [hzm, show ys.map Sg.p = xs.map Sg.p from by rw [List.take_of_length_le (by omega), List.take_of_length_le (by omega)] at hyp; exact hyp], hzs, hu⟩
end Go.Proofs.YteeopgpgbdhmhaaGreat
namespace Go.Proofs.YteeopgpgbdhmhaaGreat
open Go.RowKit Go.Lib
set_option linter.unusedVariables false
def sameS (a b : Pv) : Bool := decide (a.1 = b.1) && decide (a.2 = b.2)
theorem flt_y {xs ys : List Sg} {i : Nat} {q : Sg → Bool} (h : ys = (xs.take i).filter q) (lk : i < xs.length) (hq : q (xs.getD i Sg.zero) = true) : ys ++ [xs.getD i Sg.zero] = (xs.take (i + 1)).filter q := by
  have e : xs.getD i Sg.zero = xs[i] := by simp [List.getD, lk]
  rw [List.take_add_one, List.filter_append, ← h, List.getElem?_eq_getElem lk, e]
  rw [e] at hq
  simp [hq]
theorem flt_n {xs ys : List Sg} {i : Nat} {q : Sg → Bool} (h : ys = (xs.take i).filter q) (lk : i < xs.length) (hq : q (xs.getD i Sg.zero) = false) : ys = (xs.take (i + 1)).filter q := by
  have e : xs.getD i Sg.zero = xs[i] := by simp [List.getD, lk]
  rw [List.take_add_one, List.filter_append, ← h, List.getElem?_eq_getElem lk]
  rw [e] at hq
  simp [hq]
end Go.Proofs.YteeopgpgbdhmhaaGreat
namespace Go.Proofs.YteeopgpgbdhmhaaGreat
open Go.RowKit
set_option linter.unusedVariables false
set_option linter.unusedSimpArgs false
attribute [local irreducible] wpList wpO H wpQuiet wpStill Code.wp Exit.then Exit.inBlock bodyPost Code.rounds Calls valid sameKey conflict lessV hless num between
set_option maxRecDepth 4000 in
set_option maxHeartbeats 2000000 in
theorem c106 (vk : Value) (keys : List Nm) (x : Sg) (w : World) (hk : Ls cN w.heap.size w vk keys) (hs : x.okf w.heap.size w) : Calls Tryz.prog 23 [vk, x.v].toArray w (Ret w (.bool (verK keys x.p))) := by
  refine enter Tryz.func23 Tryz.ntmps23 rfl rfl ?_
  have hE := Ext.refl w
  refine wp_seq ?_
  refine W_region ?_
  refine L (D_box (c := (x).l) (rfl) (fun aB1_0 w1_0 e1_0 gB1_0 hB1_0 => ?_))
  have lB1_0 := Nat.le_trans hE.size gB1_0
  replace hE := hE.trans e1_0
  refine L (D_v (R_assign rfl) ?_)
  refine S_nil ?_
  refine T_tn ?_
  refine wp_seq ?_
  refine W_region ?_
  refine L (D_v (R_fieldAddr Tryz.runUnderlying34 rfl Tryz.sizeOf31 rfl) ?_)
  refine L (D_v (R_fieldAddr Tryz.runUnderlying31 rfl Tryz.sizeOf3 rfl) ?_)
  refine L (D_v (R_load Tryz.isAgg3 hB1_0 rfl rfl) ?_)
  refine L (D_v (R_assign rfl) ?_)
  refine S_nil ?_
  refine T_tn ?_
  refine wp_seq ?_
  refine W_draw mixed (by kernel_rfl) ?_
  refine Q_v (fun w hw => R_move rfl) ?_
  refine Q_v (fun w hw => R_geqI rfl rfl) ?_
  refine Q_v (fun w hw => R_move rfl) ?_
  refine Q_g1 rfl rfl (fun hb w hw => R_move rfl) ?_
  refine Q_g1 rfl rfl (fun hb w hw => R_move rfl) ?_
  refine Q_g1 rfl rfl (fun hb w hw => R_len Tryz.underlying22 (cgE hb) (hk.ext (hE.trans hw)).1) ?_
  refine Q_g1 rfl rfl (fun hb w hw => R_lssI (cgE hb) (cgE hb)) ?_
  refine Q_v (fun w hw => R_pickA rfl rfl rfl) ?_
  refine Q_v (fun w hw => R_move rfl) ?_
  refine Q_g1 rfl rfl (fun hb w hw => R_move rfl) ?_
  refine Q_g1 rfl rfl (fun hb w hw => R_move rfl) ?_
  refine Q_g1 rfl rfl (fun hb w hw => R_elI (i := (x).vote.signer) Tryz.underlying22 Tryz.sizeOf29 (cgE hb) (cgE hb) (hk.ext (hE.trans hw)).1 (by simp at hb; omega) (by simp at hb; omega)) ?_
  refine Q_g1 rfl rfl (fun hb w hw => R_ldL (C := cN) (i := ((x).vote.signer).toNat) (y := ((keys).getD (((x).vote.signer).toNat) Nm.zero)) Tryz.isAgg29 Tryz.sizeOf29 (cgE hb) (hk.ext (hE.trans hw)) (getD_some (d := Nm.zero) (by simp at hb; omega))) ?_
  refine Q_g1 rfl rfl (fun hb w hw => R_loadA (c := (x).l) Tryz.isAgg34 Tryz.sizeOf34 (hB1_0.ext hw) rfl rfl rfl) ?_
  refine Q_gc1 rfl rfl (fun hb w hw => R_callF Tryz.call18 (mapv2 (cgE hb) (cgE hb)) rfl) (fun hb w hw => c75 (((keys).getD (((x).vote.signer).toNat) Nm.zero)) (x) _ ((hs.fb (Fb.ext (hE.trans hw))).up (Nat.le_trans (Nat.le_refl _) (hE.trans hw).size))) ?_
  refine Q_v (fun w hw => R_pickA rfl rfl rfl) ?_
  refine Q_v (fun w hw => R_assign rfl) ?_
  refine Q_nil (fun w3_99 e3_99 => ?_)
  replace hE := hE.trans e3_99
  replace hB1_0 := hB1_0.ext e3_99
  refine T_tn ?_
  refine wp_ret ?_
  refine ret1 (v := .bool _) rfl rfl ⟨congrArg (fun b => Ending.returned (Value.bool b)) ?_, hE⟩
  rfl
set_option maxRecDepth 4000 in
set_option maxHeartbeats 2000000 in
theorem c102 (vk : Value) (keys : List Nm) (lo : Nat) (v : Value) (xs : List Sg) (w : World) (hk : Ls cN w.heap.size w vk keys) (hlo : lo ≤ w.heap.size) (hn : xs.length ≤ 1000000) (h : Ls cS lo w v xs) : Calls Tryz.prog 7 [vk, v].toArray w (RetE w fun r w' => ∃ ys, Ow cS lo w.heap.size w' r ys ∧ ∃ zs : List Sg, zs.length = (xs.filter (fun x => verK keys x.p)).length ∧ (∀ p, p ∈ zs.map Sg.p ↔ p ∈ (xs.filter (fun x => verK keys x.p)).map Sg.p) ∧ srtL zs ∧ ys = ddn zs zs.length) := by
  refine enter Tryz.func7 Tryz.ntmps7 rfl rfl ?_
  have hE := Ext.refl w
  refine wp_seq ?_
  refine W_region ?_
  refine L (D_v (R_assign rfl) ?_)
  refine S_nil ?_
  refine T_tn ?_
  refine wp_seq ?_
  refine W_region ?_
  refine L (D_v (R_assign rfl) ?_)
  refine S_nil ?_
  refine T_tn ?_
  refine wp_seq ?_
  refine wp_seq ?_
  refine W_region ?_
  refine L (D_v (R_move rfl) ?_)
  refine L (D_v (R_len Tryz.underlying23 rfl (h.ext hE).1) ?_)
  refine L (D_v (R_move rfl) ?_)
  refine S_nil ?_
  refine T_tn ?_
  refine wp_block ?_
  refine W_loop (fun mz g W => ∃ (i : Nat) (ys : List Sg) (r5 : Value), mz = xs.length - i ∧ g 0 = vk ∧ g 5 = r5 ∧ g 8 = v ∧ g 9 = i64 (((xs).length : Nat) : Int) ∧ g 10 = i64 ((i : Nat) : Int) ∧ Ext w W ∧ Ow cS lo w.heap.size W r5 ys ∧ i ≤ xs.length ∧ ys.length ≤ i ∧ (∀ x ∈ ys, x.sig.length ≤ 140737488355328) ∧ ys = (xs.take i).filter (fun x => verK keys x.p)) ⟨0, [], _, rfl, rfl, rfl, rfl, rfl, rfl, hE, (Ow.nil cS lo _ _), (Nat.zero_le _), (by simp), (fun x hx => absurd hx (by simp)), (by simp)⟩ ?_
  rintro mz f4 w4l ⟨i, ys, r5, hm, q0, q5, q8, q9, q10, hE, or5, hi, hl, hs, hys⟩
  refine wp_seq ?_
  refine W_region ?_
  refine L (D_v (R_lssI q10 q9) ?_)
  refine S_nil ?_
  refine T_tn ?_
  refine wp_seq ?_
  refine W_if rfl (fun c1 => ?_) (fun c1 => ?_)
  ·
    have lk : i < xs.length := by simp at c1; omega
    refine wp_skip ?_
    refine T_tn ?_
    refine wp_seq ?_
    refine wp_block ?_
    refine wp_seq ?_
    refine W_region ?_
    refine L (D_v (R_elAddr (i := i) Tryz.underlying23 Tryz.sizeOf34 q8 q10 (h.ext hE).1 (by (try simp only [List.length_take, List.length_drop, List.length_append, List.length_cons, List.length_nil, List.length_replicate, List.length_set, Nm.b_len, be2_len]); omega)) ?_)
    have k6_1 := ((h.ext hE)).get (getD_some (d := Sg.zero) (by (try simp only [List.length_take, List.length_drop, List.length_append, List.length_cons, List.length_nil, List.length_replicate, List.length_set, Nm.b_len, be2_len]); omega))
    refine L (D_v (R_ldL (C := cS) (i := i) (y := ((xs).getD (i) Sg.zero)) Tryz.isAgg34 Tryz.sizeOf34 rfl (h.ext hE) (getD_some (d := Sg.zero) (by (try simp only [List.length_take, List.length_drop, List.length_append, List.length_cons, List.length_nil, List.length_replicate, List.length_set, Nm.b_len, be2_len]); omega))) ?_)
    refine L (D_alloc (c := (Sg.zero).l) Tryz.zeroValue34 rfl (fun aB6_2 w6_2 e6_2 gB6_2 hB6_2 => ?_))
    have lB6_2 := Nat.le_trans hE.size gB6_2
    have yr5_B6_2 : Value.ownBlock r5 ≠ some aB6_2 := fun hk => absurd (own_lt or5.1 hk) (Nat.not_lt.2 gB6_2)
    replace hE := hE.trans e6_2
    replace or5 := or5.ext e6_2
    replace k6_1 := k6_1.fb (Fb.ext e6_2)
    have xor5 := yr5_B6_2
    have h0 := hB6_2
    refine L (D_storeA Tryz.sizeOf34 hB6_2 rfl rfl rfl rfl rfl (l' := (((xs).getD (i) Sg.zero)).l) rfl (fun w6_3 k6_3 hB6_2 => ?_))
    have f6_3 := Fb.kp k6_3 (Nat.le_trans hlo lB6_2) (Blk.notB h0 rfl)
    replace hE := hE.kp k6_3 lB6_2
    replace or5 := or5.kp k6_3 xor5 f6_3
    replace k6_1 := k6_1.fb f6_3
    refine S_nil ?_
    refine T_tn ?_
    refine wp_seq ?_
    refine W_region ?_
    refine L (D_v (R_move q0) ?_)
    refine L (D_v (R_loadA (c := (((xs).getD (i) Sg.zero)).l) Tryz.isAgg34 Tryz.sizeOf34 hB6_2 rfl rfl rfl) ?_)
    refine L (D_call (R_callF Tryz.call23 rfl rfl) (c106 vk (keys) (((xs).getD (i) Sg.zero)) _ ((hk.ext hE).lev fun _ _ _ => trivial) (k6_1.up (Nat.le_trans hlo hE.size))) (fun w7_2 e7_2 => ?_))
    replace hE := hE.trans e7_2
    replace hB6_2 := hB6_2.ext e7_2
    replace or5 := or5.ext e7_2
    replace k6_1 := k6_1.fb (Fb.ext e7_2)
    refine S_nil ?_
    refine T_tn ?_
    refine W_if rfl (fun c2 => ?_) (fun c2 => ?_)
    ·
      have hv := verK_sig c2
      have hf := flt_y (i := i) (xs := xs) hys lk c2
      refine W_region ?_
      refine L (D_v (R_move q5) ?_)
      refine L (D_v (R_loadA (c := (((xs).getD (i) Sg.zero)).l) Tryz.isAgg34 Tryz.sizeOf34 hB6_2 rfl rfl rfl) ?_)
      refine L (D_buildL1 (C := cS) (lo := lo) (y := ((xs).getD (i) Sg.zero)) Tryz.underlying23 Tryz.sizeOf34 Tryz.zeroValue34 (mapp1 rfl) (by decide) k6_1 (fun v8_2 w8_2 o8_2 e8_2 => ?_))
      have yv8_2_B6_2 : Value.ownBlock v8_2 ≠ some aB6_2 := fun hk => absurd (own_ge o8_2.1 hk) (Nat.not_le.2 hB6_2.lt)
      have zr5_v8_2 := own_apart or5.1 o8_2.1
      have zv8_2_r5 := fun k hk hk2 => zr5_v8_2 k hk2 hk
      replace o8_2 := o8_2.low hE.size
      replace hE := hE.trans e8_2
      replace hB6_2 := hB6_2.ext e8_2
      replace or5 := or5.ext e8_2
      replace k6_1 := k6_1.fb (Fb.ext e8_2)
      refine L (D_appendL elt53 Tryz.underlying23 rfl rfl or5 hlo o8_2.ls (by (try simp only [List.length_take, List.length_drop, List.length_append, List.length_cons, List.length_nil, List.length_replicate, List.length_set, Nm.b_len, be2_len]); omega) (by (try simp only [List.length_take, List.length_drop, List.length_append, List.length_cons, List.length_nil, List.length_replicate, List.length_set, Nm.b_len, be2_len]); omega) hE.size (fun v8_3 w8_3 o8_3 g8_3 f8_3 sv8_3 => ?_))
      have yv8_3_B6_2 : Value.ownBlock v8_3 ≠ some aB6_2 := fun hk => (sv8_3 _ hk).elim yr5_B6_2 (fun h => absurd h (Nat.not_le.2 hB6_2.lt))
      have zv8_2_v8_3 : ∀ k, Value.ownBlock v8_2 = some k → Value.ownBlock v8_3 ≠ some k := fun k hk2 hk => (sv8_3 _ hk).elim (fun h => zv8_2_r5 k hk2 h) (fun h => absurd h (Nat.not_le.2 (own_lt o8_2.1 hk2)))
      have zv8_3_v8_2 := fun k hk hk2 => zv8_2_v8_3 k hk2 hk
      replace hE := hE.grown g8_3 (fun k hk => own_ge or5.1 hk)
      replace hB6_2 := hB6_2.grown g8_3 (yr5_B6_2)
      replace o8_2 := o8_2.grown g8_3 (zv8_2_r5) f8_3
      replace k6_1 := k6_1.fb f8_3
      refine L (D_v (R_assign rfl) ?_)
      refine S_nil ?_
      refine T_bn ?_
      refine T_tn ?_
      refine W_region ?_
      refine L (D_v (R_addN (m := i) (j := 1) q10 rfl (by (try simp only [List.length_take, List.length_drop, List.length_append, List.length_cons, List.length_nil, List.length_replicate, List.length_set, Nm.b_len, be2_len]); omega)) ?_)
      refine L (D_v (R_move rfl) ?_)
      refine S_nil ?_
      refine T_tn ?_
      refine ⟨_, _, ?_, rfl, i + 1, _, _, rfl, q0, rfl, q8, q9, rfl, hE, o8_3, ?_, ?_, ?_, ?_⟩
      all_goals first | omega | exact hs | exact hf | (simp only [List.length_append, List.length_cons, List.length_nil]; omega) | (intro x hx; exact (List.mem_append.1 hx).elim (hs x) (fun h1 => by rw [List.mem_singleton.1 h1]; exact hv))
    ·
      have hf := flt_n (i := i) (xs := xs) hys lk c2
      refine wp_skip ?_
      refine T_bn ?_
      refine T_tn ?_
      refine W_region ?_
      refine L (D_v (R_addN (m := i) (j := 1) q10 rfl (by (try simp only [List.length_take, List.length_drop, List.length_append, List.length_cons, List.length_nil, List.length_replicate, List.length_set, Nm.b_len, be2_len]); omega)) ?_)
      refine L (D_v (R_move rfl) ?_)
      refine S_nil ?_
      refine T_tn ?_
      refine ⟨_, _, ?_, rfl, i + 1, _, _, rfl, q0, q5, q8, q9, rfl, hE, or5, ?_, ?_, ?_, ?_⟩
      all_goals first | omega | exact hs | exact hf | (simp only [List.length_append, List.length_cons, List.length_nil]; omega) | (intro x hx; exact (List.mem_append.1 hx).elim (hs x) (fun h1 => by rw [List.mem_singleton.1 h1]; exact hv))
  ·
    obtain rfl : i = xs.length := by have h9 := of_decide_eq_false c1; omega
    refine wp_exit ?_
    refine T_te ?_
    refine T_te ?_
    refine T_be ?_
    refine T_tn ?_
    refine wp_seq ?_
    refine W_region ?_
    refine L (D_v (R_move q5) ?_)
    refine L (D_callE (R_callF Tryz.call24 rfl rfl) (c57 lo r5 (ys) _ (Nat.le_trans hlo hE.size) (by (try simp only [List.length_take, List.length_drop, List.length_append, List.length_cons, List.length_nil, List.length_replicate, List.length_set, Nm.b_len, be2_len]); omega) or5.ls hs) (fun v6_1 w6_1 e6_1 p6_1 => ?_))
    obtain ⟨y6_1, o6_1, zz6_1, za6_1, zb6_1, zc6_1, zd6_1⟩ := p6_1
    have zr5_v6_1 := own_apart or5.1 o6_1.1
    have zv6_1_r5 := fun k hk hk2 => zr5_v6_1 k hk2 hk
    replace o6_1 := o6_1.low hE.size
    replace hE := hE.trans e6_1
    replace or5 := or5.ext e6_1
    refine L (D_v (R_assign rfl) ?_)
    refine S_nil ?_
    refine T_tn ?_
    refine wp_ret ?_
    refine ret1 (v := v6_1) rfl rfl ⟨_, rfl, hE, ?_⟩
    rw [List.take_of_length_le (Nat.le_refl _)] at hys
    rw [hys] at za6_1 zb6_1
    exact ⟨_, o6_1, zz6_1, za6_1, zb6_1, zc6_1, zd6_1⟩
set_option maxRecDepth 4000 in
set_option maxHeartbeats 1000000 in
theorem c104 (x : Sg) (w : World) (hs : x.okf w.heap.size w) (hl : x.sig.length ≤ 140737488355328) : Calls Tryz.prog 29 [x.v].toArray w (RetE w fun r w' => ∃ x2 : Sg, r = x2.v ∧ x2.p = x.p ∧ x2.okf 0 w') := by
  refine enter Tryz.func29 Tryz.ntmps29 rfl rfl ?_
  have hE := Ext.refl w
  refine wp_seq ?_
  refine W_region ?_
  refine L (D_box (c := (x).l) (rfl) (fun aB1_0 w1_0 e1_0 gB1_0 hB1_0 => ?_))
  have lB1_0 := Nat.le_trans hE.size gB1_0
  replace hE := hE.trans e1_0
  refine L (D_alloc (c := (Sg.zero).l) Tryz.zeroValue34 rfl (fun aB1_1 w1_1 e1_1 gB1_1 hB1_1 => ?_))
  have lB1_1 := Nat.le_trans hE.size gB1_1
  have nB1_0B1_1 := hB1_0.ne gB1_1
  replace hE := hE.trans e1_1
  replace hB1_0 := hB1_0.ext e1_1
  refine S_nil ?_
  refine T_tn ?_
  refine wp_seq ?_
  refine W_held (fun W => Ext w W ∧ Blk W aB1_0 (x).l 34 ∧ True) mixed (fun w2_99 e2_99 => ?_)
  replace hE := hE.trans e2_99
  replace hB1_0 := hB1_0.ext e2_99
  replace hB1_1 := hB1_1.ext e2_99
  refine H_take (i := 0) rfl (by kernel_rfl) (by kernel_rfl) (by kernel_rfl) rfl (pq_then pq_body) ⟨hE, hB1_0, trivial⟩ rfl (fun w hw => R_fieldAddr Tryz.runUnderlying34 rfl Tryz.sizeOf31 rfl) ?_
  refine H_take (i := 1) rfl (by kernel_rfl) (by kernel_rfl) (by kernel_rfl) rfl (pq_then pq_body) ⟨hE, hB1_0, trivial⟩ rfl (fun w hw => R_loadA (c := ((x).vote).l) Tryz.isAgg31 Tryz.sizeOf31 hw.2.1 rfl rfl rfl) ?_
  refine H_take (i := 2) rfl (by kernel_rfl) (by kernel_rfl) (by kernel_rfl) rfl (pq_then pq_body) ⟨hE, hB1_0, trivial⟩ rfl (fun w hw => R_fieldAddr Tryz.runUnderlying34 rfl Tryz.sizeOf32 rfl) ?_
  refine H_take (i := 3) rfl (by kernel_rfl) (by kernel_rfl) (by kernel_rfl) rfl (pq_then pq_body) ⟨hE, hB1_0, trivial⟩ rfl (fun w hw => R_load Tryz.isAgg32 hw.2.1 rfl rfl) ?_
  have o2_4n := OwnB.nil w2_99 w.heap.size
  refine H_op (i := 4) (by kernel_rfl) rfl rfl (D_appendB elt5 Tryz.underlying32 rfl rfl o2_4n (hs.fb (Fb.ext hE)).bs (by (try simp only [List.length_take, List.length_drop, List.length_append, List.length_cons, List.length_nil, List.length_replicate, List.length_set, Nm.b_len, be2_len]); omega) hE.size (fun v2_4 w2_4 o2_4 g2_4 => ?_))
  replace g2_4 := gext g2_4
  replace hE := hE.trans g2_4
  replace hB1_0 := hB1_0.ext g2_4
  replace hB1_1 := hB1_1.ext g2_4
  refine ⟨⟨hE, hB1_0, trivial⟩, ?_⟩
  have k2_5 : Sg.okf w.heap.size w2_4 (mkSg ((x).vote) v2_4 ([] ++ (x).sig)) := mkSg_ok _ (Bf.own o2_4)
  refine H_op (i := 5) (by kernel_rfl) rfl rfl (D_v (R_buildS (vs := [(0, .agg ((x).vote).l.toArray), (1, v2_4)]) (c := (mkSg ((x).vote) v2_4 ([] ++ (x).sig)).l) Tryz.runUnderlying34 places53 Tryz.zeroValue34 (mapp2 rfl rfl) (fill53 _ o2_4.bs)) ⟨⟨hE, hB1_0, trivial⟩, ?_⟩)
  have xo2_4 := own_neB o2_4 hB1_1 rfl
  have h0 := hB1_1
  refine H_op (i := 6) (by kernel_rfl) rfl rfl (D_storeA Tryz.sizeOf34 hB1_1 rfl rfl rfl rfl rfl (l' := ((mkSg ((x).vote) v2_4 ([] ++ (x).sig))).l) rfl (fun w2_6 k2_6 hB1_1 => ?_))
  have f2_6 := Fb.kp k2_6 (Nat.le_trans (Nat.le_refl _) lB1_1) (Blk.notB h0 rfl)
  replace hE := hE.kp k2_6 lB1_1
  replace hB1_0 := hB1_0.kp k2_6 nB1_0B1_1
  replace o2_4 := o2_4.kp k2_6 xo2_4
  replace k2_5 := k2_5.fb f2_6
  refine ⟨⟨hE, hB1_0, trivial⟩, ?_⟩
  refine H_done (by kernel_rfl) ?_
  refine T_tn ?_
  refine wp_ret ?_
  refine retc (c := ((mkSg ((x).vote) v2_4 ([] ++ (x).sig))).l) rfl rfl Tryz.isAgg34 Tryz.sizeOf34 hB1_1 rfl rfl ⟨_, rfl, hE, ?_⟩
  exact ⟨(mkSg ((x).vote) v2_4 ([] ++ (x).sig)), rfl, rfl, mkSg_ok _ (Bf.own o2_4)⟩
end Go.Proofs.YteeopgpgbdhmhaaGreat
namespace Go.Proofs.YteeopgpgbdhmhaaGreat
open Go.RowKit Go.Lib
set_option linter.unusedVariables false
theorem lessP_V {x y : Pv} (h : lessP x y = false) : lessV x.1 y.1 = false := by
  by_cases e : x.1 = y.1
  · rw [e]; exact less_irr _
  · rw [lessP_ne e] at h; exact h
theorem srt_at {zs : List Sg} (h : srtL zs) {i j : Nat} (hij : i < j) (hj : j < zs.length) : lessP (zs.getD j Sg.zero).p (zs.getD i Sg.zero).p = false :=
  h i j _ _ hij (getD_some (by omega)) (getD_some hj)
theorem srt_step {zs : List Sg} (h : srtL zs) {i k : Nat} (hik : i < k) (hk : k < zs.length) (hn : (zs.getD k Sg.zero).vote ≠ (zs.getD (k - 1) Sg.zero).vote) : lessV (zs.getD i Sg.zero).vote (zs.getD k Sg.zero).vote = true := by
  have h1 : lessV (zs.getD k Sg.zero).vote (zs.getD i Sg.zero).vote = false := lessP_V (srt_at h hik hk)
  have h2 : lessV (zs.getD k Sg.zero).vote (zs.getD (k - 1) Sg.zero).vote = false := lessP_V (srt_at h (by omega) hk)
  by_cases e : (zs.getD i Sg.zero).vote = (zs.getD k Sg.zero).vote
  · exfalso
    by_cases e2 : i = k - 1
    · subst e2; exact hn e.symm
    · have h3 : lessV (zs.getD (k - 1) Sg.zero).vote (zs.getD i Sg.zero).vote = false := lessP_V (srt_at h (by omega) (by omega))
      rw [e] at h3
      rcases less_total hn with h4 | h4
      · rw [h4] at h2; cases h2
      · rw [h4] at h3; cases h3
  · rcases less_total e with h4 | h4
    · exact h4
    · rw [h4] at h1; cases h1
theorem ddn_inv {zs : List Sg} (h : srtL zs) : ∀ k, k ≤ zs.length → asc ((ddn zs k).map Sg.p) ∧ (∀ y ∈ ddn zs k, ∃ i, i < k ∧ y = zs.getD i Sg.zero) ∧ (∀ i, i < k → ∃ j, j ≤ i ∧ zs.getD j Sg.zero ∈ ddn zs k ∧ (zs.getD j Sg.zero).vote = (zs.getD i Sg.zero).vote)
  | 0, _ => ⟨List.Pairwise.nil, fun y hy => by simp [ddn] at hy, fun i hi => by omega⟩
  | k + 1, hk => by
    obtain ⟨h1, h2, h3⟩ := ddn_inv h k (by omega)
    by_cases hc : k = 0 ∨ (zs.getD k Sg.zero).vote ≠ (zs.getD (k - 1) Sg.zero).vote
    · rw [← ddn_y rfl hc]
      refine ⟨?_, fun y hy => ?_, fun i hi => ?_⟩
      · rw [List.map_append]
        refine List.pairwise_append.2 ⟨h1, by simp, fun a ha b hb => ?_⟩
        obtain ⟨y, hy, rfl⟩ := List.mem_map.1 ha
        obtain ⟨i, hi, rfl⟩ := h2 y hy
        rw [List.map_singleton, List.mem_singleton] at hb
        subst hb
        rcases hc with hc | hc
        · omega
        · exact srt_step h hi (by omega) hc
      · rcases List.mem_append.1 hy with hy | hy
        · obtain ⟨i, hi, e⟩ := h2 y hy; exact ⟨i, by omega, e⟩
        · rw [List.mem_singleton] at hy; exact ⟨k, by omega, hy⟩
      · by_cases hik : i < k
        · obtain ⟨j, hj, hm, e⟩ := h3 i hik; exact ⟨j, hj, List.mem_append_left _ hm, e⟩
        · obtain rfl : i = k := by omega
          exact ⟨i, Nat.le_refl _, List.mem_append_right _ (List.mem_singleton_self _), rfl⟩
    · rw [← ddn_n (ys := ddn zs k) rfl hc]
      refine ⟨h1, fun y hy => ?_, fun i hi => ?_⟩
      · obtain ⟨i, hi, e⟩ := h2 y hy; exact ⟨i, by omega, e⟩
      · by_cases hik : i < k
        · exact h3 i hik
        · obtain rfl : i = k := by omega
          have hc2 : i ≠ 0 ∧ (zs.getD i Sg.zero).vote = (zs.getD (i - 1) Sg.zero).vote := by
            refine ⟨fun e => hc (.inl e), ?_⟩
            by_cases e : (zs.getD i Sg.zero).vote = (zs.getD (i - 1) Sg.zero).vote
            · exact e
            · exact absurd (.inr e) hc
          obtain ⟨j, hj, hm, e⟩ := h3 (i - 1) (by omega)
          exact ⟨j, by omega, hm, e.trans hc2.2.symm⟩
theorem ddn_can {zs : List Sg} (h : srtL zs) : IsCan (zs.map Sg.p) ((ddn zs zs.length).map Sg.p) := by
  obtain ⟨h1, h2, h3⟩ := ddn_inv h zs.length (Nat.le_refl _)
  refine ⟨h1, fun y hy => ?_, fun x hx => ?_⟩
  · obtain ⟨a, ha, rfl⟩ := List.mem_map.1 hy
    obtain ⟨i, hi, rfl⟩ := h2 a ha
    exact List.mem_map.2 ⟨_, List.mem_of_getElem? (getD_some hi), rfl⟩
  · obtain ⟨a, ha, rfl⟩ := List.mem_map.1 hx
    obtain ⟨i, hi⟩ := List.getElem?_of_mem ha
    have hil := (List.getElem?_eq_some_iff.1 hi).1
    have e1 : zs.getD i Sg.zero = a := by rw [List.getD_eq_getElem?_getD, hi]; rfl
    obtain ⟨j, hj, hm, e⟩ := h3 i hil
    refine ⟨_, List.mem_map.2 ⟨_, hm, rfl⟩, by rw [← e1]; exact e, ?_⟩
    rw [← e1]
    by_cases hij : j = i
    · subst hij; exact ltB_irr _
    · have := srt_at h (show j < i by omega) hil
      rw [lessP_eq (show (zs.getD i Sg.zero).p.1 = (zs.getD j Sg.zero).p.1 from e.symm)] at this
      exact this
theorem can_of {xs zs ys : List Sg} (h : srtL zs) (hm : ∀ p, p ∈ zs.map Sg.p ↔ p ∈ xs.map Sg.p) (hy : ys = ddn zs zs.length) : IsCan (xs.map Sg.p) (ys.map Sg.p) := by
  have := ddn_can h
  subst hy
  exact ⟨this.up, fun y hyy => (hm y).1 (this.sub y hyy), fun x hx => this.all x ((hm x).2 hx)⟩
end Go.Proofs.YteeopgpgbdhmhaaGreat
namespace Go.Proofs.YteeopgpgbdhmhaaGreat
open Go.RowKit Go.Lib
set_option linter.unusedVariables false
set_option linter.unusedSimpArgs false
section
variable {P : Program} {ops : Array Oper} {Q : Exit → Act → World → Prop} {K : Act → World → Prop} {n : Nat} {f : Nat → Value} {w : World} {d : Option Tmp} {op : Op} {ty : TypeId} {pos : String} {aft : Array Edge}
theorem D_on {j dj : Nat} {want : Bool} (hj : (ops[j]?).bind (·.dst) = some dj) (hb : ov n f (.tmp dj) = .bool want) (h : wpO P ops Q ⟨d, op, ty, pos, aft, none⟩ K (E n f) w) :
    wpO P ops Q ⟨d, op, ty, pos, aft, some (j, want)⟩ K (E n f) w := by
  have hw : Region.wanted (⟨d, op, ty, pos, aft, some (j, want)⟩ : Oper) (yielded ops (E n f).tmps) = (want == want) := wanted_b rfl hj hb
  simp only [wpO, Region.wanted, if_true] at h
  unfold wpO
  rw [if_pos (by rw [hw]; simp)]
  exact h
theorem D_makeMap {t : TypeId} (k : ∀ g w', Ext w w' → w.heap.size ≤ g → w'.heap[g]? = some (.map #[] 0) → K (E n (upo f d (.map (some g)))) w') :
    wpO P ops Q ⟨d, .makeMap t none, ty, pos, aft, none⟩ K (E n f) w := by
  refine D_v (v := .map (some w.heap.size)) (w' := w.alloc (.map #[] 0)) ?_ (k _ _ (Ext.alloc _ _) (Nat.le_refl _) (by unfold World.alloc; exact Array.getElem?_push_size))
  simp [go_sem, Instr.makeMap]
end
section
variable {ρ : Operand → Value} {w : World} {dst : Option Tmp} {ty : TypeId} {pos : String} {aft : Array Edge} {gd : Option (Nat × Bool)}
end
end Go.Proofs.YteeopgpgbdhmhaaGreat
namespace Go.Proofs.YteeopgpgbdhmhaaGreat
open Go.RowKit
set_option linter.unusedVariables false
theorem sameKey_symm (a b : Vt) : sameKey a b = sameKey b a := by
  rw [Bool.eq_iff_iff, sameKey_iff, sameKey_iff]
  constructor <;> (rintro ⟨h1, h2, h3, h4, h5⟩; exact ⟨h1.symm, h2.symm, h3.symm, h4.symm, h5.symm⟩)
theorem sameKey_trans {a b c : Vt} (h : sameKey a b = true) (k : sameKey b c = true) : sameKey a c = true := by
  rw [sameKey_iff] at *
  obtain ⟨h1, h2, h3, h4, h5⟩ := h
  obtain ⟨k1, k2, k3, k4, k5⟩ := k
  exact ⟨h1.trans k1, h2.trans k2, h3.trans k3, h4.trans k4, h5.trans k5⟩
abbrev Fst := List Pv × List (Option (Pv × Pv))
def look (fs : List Pv) (v : Vt) : Option Pv := fs.find? fun a => sameKey a.1 v
def betters (a : Pv) (q : Option (Pv × Pv)) : Bool := match q with
  | none => true
  | some q => lessV a.1 q.1.1
def fstep (st : Fst) (s : Pv) : Fst :=
  match look st.1 s.1 with
  | none => (st.1 ++ [s], st.2)
  | some a => if betters a (st.2.getD s.1.signer.toNat none) then (st.1, st.2.set s.1.signer.toNat (some (a, s))) else st
def fst0 : Fst := ([], List.replicate 10 none)
def findP (ys : List Pv) : List (Pv × Pv) := (ys.foldl fstep fst0).2.filterMap id
structure FI (us : List Pv) (st : Fst) : Prop where
  len : st.2.length = 10
  sub : ∀ a ∈ st.1, a ∈ us
  key : ∀ u ∈ us, ∃ a ∈ st.1, sameKey a.1 u.1 = true
  one : ∀ a ∈ st.1, ∀ b ∈ st.1, sameKey a.1 b.1 = true → a = b
  le : ∀ a ∈ st.1, ∀ u ∈ us, sameKey a.1 u.1 = true → a = u ∨ lessV a.1 u.1 = true
  good : ∀ (i : Nat) e, st.2[i]? = some (some e) → e.1 ∈ us ∧ e.2 ∈ us ∧ sameKey e.1.1 e.2.1 = true ∧ lessV e.1.1 e.2.1 = true ∧ e.1.1.signer = (i : Int)
  nun : ∀ i : Nat, st.2[i]? = some none → ∀ x ∈ us, ∀ y ∈ us, x.1.signer = (i : Int) → sameKey x.1 y.1 = true → x = y
theorem FI.zero : FI [] fst0 := by
  refine ⟨rfl, by simp [fst0], by simp, by simp [fst0], by simp [fst0], fun i e h => ?_, by simp⟩
  have h1 := List.mem_of_getElem? h
  simp [fst0] at h1
theorem FI.step {us : List Pv} {st : Fst} {s : Pv} (h : FI us st) (hs : ∀ u ∈ us, lessV u.1 s.1 = true) (hv : 0 ≤ s.1.signer ∧ s.1.signer ≤ 9) : FI (us ++ [s]) (fstep st s) := by
  have mono : ∀ x, x ∈ us → x ∈ us ++ [s] := fun x hx => List.mem_append_left _ hx
  have good' : ∀ (i : Nat) e, st.2[i]? = some (some e) → e.1 ∈ us ++ [s] ∧ e.2 ∈ us ++ [s] ∧ sameKey e.1.1 e.2.1 = true ∧ lessV e.1.1 e.2.1 = true ∧ e.1.1.signer = (i : Int) :=
    fun i e he => ⟨mono _ (h.good i e he).1, mono _ (h.good i e he).2.1, (h.good i e he).2.2⟩
  unfold fstep
  cases hl : look st.1 s.1 with
  | none =>
    have hno : ∀ a ∈ st.1, sameKey a.1 s.1 = false := by
      intro a ha
      have := List.find?_eq_none.1 hl a ha
      simpa using this
    have hnu : ∀ u ∈ us, sameKey u.1 s.1 = false := by
      intro u hu
      obtain ⟨a, ha, hk⟩ := h.key u hu
      cases e : sameKey u.1 s.1 with
      | false => rfl
      | true => have := hno a ha; rw [sameKey_trans hk e] at this; cases this
    refine ⟨h.len, ?_, ?_, ?_, ?_, good', ?_⟩
    · intro a ha
      rcases List.mem_append.1 ha with h1 | h1
      · exact mono _ (h.sub a h1)
      · exact List.mem_append_right _ h1
    · intro u hu
      rcases List.mem_append.1 hu with h1 | h1
      · obtain ⟨a, ha, hk⟩ := h.key u h1; exact ⟨a, List.mem_append_left _ ha, hk⟩
      · rw [List.mem_singleton] at h1; subst h1; exact ⟨u, List.mem_append_right _ (List.mem_singleton_self _), sameKey_refl _⟩
    · intro a ha b hb hk
      rcases List.mem_append.1 ha with h1 | h1 <;> rcases List.mem_append.1 hb with h2 | h2
      · exact h.one a h1 b h2 hk
      · rw [List.mem_singleton] at h2; subst h2; rw [hno a h1] at hk; cases hk
      · rw [List.mem_singleton] at h1; subst h1; rw [sameKey_symm, hno b h2] at hk; cases hk
      · rw [List.mem_singleton] at h1 h2; rw [h1, h2]
    · intro a ha u hu hk
      rcases List.mem_append.1 ha with h1 | h1 <;> rcases List.mem_append.1 hu with h2 | h2
      · exact h.le a h1 u h2 hk
      · rw [List.mem_singleton] at h2; subst h2; rw [hno a h1] at hk; cases hk
      · rw [List.mem_singleton] at h1; subst h1; rw [sameKey_symm, hnu u h2] at hk; cases hk
      · rw [List.mem_singleton] at h1 h2; left; rw [h1, h2]
    · intro i hi x hx y hy hg hk
      rcases List.mem_append.1 hx with h1 | h1 <;> rcases List.mem_append.1 hy with h2 | h2
      · exact h.nun i hi x h1 y h2 hg hk
      · rw [List.mem_singleton] at h2; subst h2; rw [hnu x h1] at hk; cases hk
      · rw [List.mem_singleton] at h1; subst h1; rw [sameKey_symm, hnu y h2] at hk; cases hk
      · rw [List.mem_singleton] at h1 h2; rw [h1, h2]
  | some a =>
    have ha : a ∈ st.1 := List.mem_of_find?_eq_some hl
    have hk : sameKey a.1 s.1 = true := by have := List.find?_some hl; simpa using this
    have hau := h.sub a ha
    have hlt : lessV a.1 s.1 = true := hs a hau
    have key' : ∀ u ∈ us ++ [s], ∃ a ∈ st.1, sameKey a.1 u.1 = true := by
      intro u hu
      rcases List.mem_append.1 hu with h1 | h1
      · exact h.key u h1
      · rw [List.mem_singleton] at h1; subst h1; exact ⟨a, ha, hk⟩
    have le' : ∀ a ∈ st.1, ∀ u ∈ us ++ [s], sameKey a.1 u.1 = true → a = u ∨ lessV a.1 u.1 = true := by
      intro b hb u hu hbk
      rcases List.mem_append.1 hu with h1 | h1
      · exact h.le b hb u h1 hbk
      · rw [List.mem_singleton] at h1; subst h1; exact .inr (hs b (h.sub b hb))
    have nn : ∀ i : Nat, st.2[i]? = some none → s.1.signer ≠ (i : Int) → ∀ x ∈ us ++ [s], ∀ y ∈ us ++ [s], x.1.signer = (i : Int) → sameKey x.1 y.1 = true → x = y := by
      intro i hi hne x hx y hy hg hk2
      have hg2 : y.1.signer = (i : Int) := by rw [← sameKey_signer hk2]; exact hg
      rcases List.mem_append.1 hx with h1 | h1 <;> rcases List.mem_append.1 hy with h2 | h2
      · exact h.nun i hi x h1 y h2 hg hk2
      · rw [List.mem_singleton] at h2; subst h2; exact absurd hg2 hne
      · rw [List.mem_singleton] at h1; subst h1; exact absurd hg hne
      · rw [List.mem_singleton] at h1 h2; rw [h1, h2]
    obtain ⟨i, hi⟩ := Int.eq_ofNat_of_zero_le hv.1
    have hin : s.1.signer.toNat = i := by rw [hi]; rfl
    have hi10 : i < st.2.length := by rw [h.len]; omega
    show FI (us ++ [s]) (if betters a (st.2.getD s.1.signer.toNat none) then (st.1, st.2.set s.1.signer.toNat (some (a, s))) else st)
    rw [hin]
    have hsm : s ∈ us ++ [s] := List.mem_append_right _ (List.mem_singleton_self _)
    split
    · refine ⟨by simp [h.len], fun a ha => mono _ (h.sub a ha), key', h.one, le', ?_, ?_⟩
      · intro j e he
        rw [List.getElem?_set] at he
        by_cases hij : i = j
        · subst hij
          rw [if_pos rfl, if_pos hi10] at he
          cases he
          exact ⟨mono _ hau, hsm, hk, hlt, by rw [sameKey_signer hk, hi]⟩
        · rw [if_neg hij] at he; exact good' j e he
      · intro j hj
        rw [List.getElem?_set] at hj
        by_cases hij : i = j
        · rw [if_pos hij, if_pos hi10] at hj; cases hj
        · rw [if_neg hij] at hj; exact nn j hj (by omega)
    · rename_i hb
      refine ⟨h.len, fun a ha => mono _ (h.sub a ha), key', h.one, le', good', ?_⟩
      intro j hj
      refine nn j hj fun e => ?_
      have : j = i := by omega
      subst this
      rw [List.getD_eq_getElem?_getD, hj] at hb
      exact hb rfl
theorem FI.all : ∀ (vs us : List Pv) (st : Fst), FI us st → asc (us ++ vs) → (∀ v ∈ vs, 0 ≤ v.1.signer ∧ v.1.signer ≤ 9) → FI (us ++ vs) (vs.foldl fstep st)
  | [], us, st, h, _, _ => by simpa using h
  | s :: vs, us, st, h, ha, hv => by
    have hs : ∀ u ∈ us, lessV u.1 s.1 = true := fun u hu => (List.pairwise_append.1 ha).2.2 u hu s (List.mem_cons_self ..)
    have := FI.all vs (us ++ [s]) (fstep st s) (h.step hs (hv s (List.mem_cons_self ..))) (by rw [List.append_assoc]; exact ha) (fun v h => hv v (List.mem_cons_of_mem _ h))
    rw [List.append_assoc] at this
    exact this
def inR (ys : List Pv) : Prop := ∀ y ∈ ys, 0 ≤ y.1.signer ∧ y.1.signer ≤ 9
theorem findI {ys : List Pv} (ha : asc ys) (hv : inR ys) : FI ys (ys.foldl fstep fst0) := by
  have := FI.all ys [] fst0 FI.zero (by simpa using ha) hv
  simpa using this
theorem find_mem {ys : List Pv} {e : Pv × Pv} : e ∈ findP ys ↔ ∃ i : Nat, (ys.foldl fstep fst0).2[i]? = some (some e) := by
  unfold findP
  rw [List.mem_filterMap]
  constructor
  · rintro ⟨o, ho, he⟩
    obtain ⟨i, hi⟩ := List.getElem?_of_mem ho
    exact ⟨i, by rw [hi]; exact congrArg some he⟩
  · rintro ⟨i, hi⟩
    exact ⟨some e, List.mem_of_getElem? hi, rfl⟩
theorem find_sound {ys : List Pv} (ha : asc ys) (hv : inR ys) {e : Pv × Pv} (he : e ∈ findP ys) : e.1 ∈ ys ∧ e.2 ∈ ys ∧ sameKey e.1.1 e.2.1 = true ∧ lessV e.1.1 e.2.1 = true ∧ 0 ≤ e.1.1.signer ∧ e.1.1.signer ≤ 9 := by
  obtain ⟨i, hi⟩ := find_mem.1 he
  have h := (findI ha hv).good i e hi
  have hl := (List.getElem?_eq_some_iff.1 hi).1
  rw [(findI ha hv).len] at hl
  exact ⟨h.1, h.2.1, h.2.2.1, h.2.2.2.1, by omega, by omega⟩
theorem find_len {ys : List Pv} (ha : asc ys) (hv : inR ys) : (findP ys).length ≤ 10 := by
  have := (findI ha hv).len
  have h2 := List.length_filterMap_le id (ys.foldl fstep fst0).2
  unfold findP
  omega
def maskP (es : List (Pv × Pv)) (g : Int) : Int := es.foldl (fun g e => bits .or .i64 g (bitI e.1.1.signer)) g
def guiltyP (ys : List Pv) : Int := maskP (findP ys) 0
end Go.Proofs.YteeopgpgbdhmhaaGreat
namespace Go.Proofs.YteeopgpgbdhmhaaGreat
open Go.ChangeShapes Go.WideShapes Go.ChangeAt Go.RowKit
set_option linter.unusedVariables false
set_option maxRecDepth 20000
set_option linter.constructorNameAsVariable false
variable {H : Type} {enc : TypeId × Value → H} {w : World} {base : Nat} {sp : Nat → Bool} {held : Bool}
theorem sameS_refl (p : Pv) : sameS p p = true := by simp [sameS]
end Go.Proofs.YteeopgpgbdhmhaaGreat
namespace Go.Proofs.YteeopgpgbdhmhaaGreat
open Go.RowKit
set_option linter.unusedVariables false
theorem verK_parts {keys : List Nm} {s : Pv} (h : verK keys s = true) : 0 ≤ s.1.signer ∧ s.1.signer < ((keys.length : Nat) : Int) ∧ verP (keyAt keys s.1.signer) s = true := by
  unfold verK at h
  simp only [Bool.and_eq_true, decide_eq_true_eq] at h
  exact ⟨h.1.1, h.1.2, h.2⟩
theorem verK_valid {keys : List Nm} {s : Pv} (h : verK keys s = true) : valid s.1 = true := by
  have := (verK_parts h).2.2
  unfold verP at this
  exact (Bool.and_eq_true_iff.1 this).1
end Go.Proofs.YteeopgpgbdhmhaaGreat
namespace Go.Proofs.YteeopgpgbdhmhaaGreat
open Go.RowKit
set_option linter.unusedVariables false
theorem can_ins {l ys : List Pv} (h : IsCan l ys) (x : Pv) : ∃ zs, IsCan (x :: l) zs := by
  obtain ⟨m, hm1, hm2, hmem, hmin⟩ : ∃ m : Pv, m.1 = x.1 ∧ (m = x ∨ m ∈ ys) ∧ ltB x.2 m.2 = false ∧ ∀ y ∈ ys, y.1 = x.1 → ltB y.2 m.2 = false := by
    by_cases he : ∃ y ∈ ys, y.1 = x.1
    · obtain ⟨y, hy, e⟩ := he
      have uniq : ∀ z ∈ ys, z.1 = x.1 → z = y := by
        intro z hz ez
        by_cases e2 : z = y
        · exact e2
        · exfalso
          rcases List.mem_iff_append.1 hy with ⟨s, t, rfl⟩
          have hv : z.1 = y.1 := ez.trans e.symm
          rcases List.mem_append.1 hz with h1 | h1
          · have := (List.pairwise_append.1 h.up).2.2 z h1 y (List.mem_cons_self ..)
            rw [hv, less_irr] at this; cases this
          · rcases List.mem_cons.1 h1 with h1 | h1
            · exact e2 h1
            · have := (List.pairwise_cons.1 (List.pairwise_append.1 h.up).2.1).1 z h1
              rw [hv, less_irr] at this; cases this
      by_cases hl : ltB x.2 y.2 = true
      · exact ⟨x, rfl, .inl rfl, ltB_irr _, fun z hz ez => by rw [uniq z hz ez]; exact sto_B.asym hl⟩
      · exact ⟨y, e, .inr hy, by simpa using hl, fun z hz ez => by rw [uniq z hz ez]; exact ltB_irr _⟩
    · exact ⟨x, rfl, .inl rfl, ltB_irr _, fun z hz ez => absurd ⟨z, hz, ez⟩ he⟩
  refine ⟨ys.filter (fun y => lessV y.1 x.1) ++ m :: ys.filter (fun y => lessV x.1 y.1), ?_, ?_, ?_⟩
  · refine List.pairwise_append.2 ⟨h.up.filter _, List.pairwise_cons.2 ⟨fun b hb => ?_, h.up.filter _⟩, fun a ha b hb => ?_⟩
    · rw [hm1]; exact (List.mem_filter.1 hb).2
    · have h1 : lessV a.1 x.1 = true := (List.mem_filter.1 ha).2
      rcases List.mem_cons.1 hb with rfl | hb
      · rw [hm1]; exact h1
      · exact less_trans h1 (List.mem_filter.1 hb).2
  · intro y hy
    rcases List.mem_append.1 hy with h1 | h1
    · exact List.mem_cons_of_mem _ (h.sub y (List.mem_filter.1 h1).1)
    · rcases List.mem_cons.1 h1 with rfl | h1
      · rcases hm2 with rfl | h2
        · exact List.mem_cons_self ..
        · exact List.mem_cons_of_mem _ (h.sub _ h2)
      · exact List.mem_cons_of_mem _ (h.sub y (List.mem_filter.1 h1).1)
  · intro a ha
    rcases List.mem_cons.1 ha with rfl | ha
    · exact ⟨m, List.mem_append_right _ (List.mem_cons_self ..), hm1, hmem⟩
    · obtain ⟨y, hy, e1, e2⟩ := h.all a ha
      by_cases e : y.1 = x.1
      · refine ⟨m, List.mem_append_right _ (List.mem_cons_self ..), hm1.trans (e.symm.trans e1), ?_⟩
        have h3 := hmin y hy e
        exact sto_B.ord.trans _ _ _ h3 e2
      · rcases less_total e with h1 | h1
        · exact ⟨y, List.mem_append_left _ (List.mem_filter.2 ⟨hy, h1⟩), e1, e2⟩
        · exact ⟨y, List.mem_append_right _ (List.mem_cons_of_mem _ (List.mem_filter.2 ⟨hy, h1⟩)), e1, e2⟩
theorem can_ex : ∀ l : List Pv, ∃ ys, IsCan l ys
  | [] => ⟨[], IsCan.nil⟩
  | x :: l => by obtain ⟨ys, h⟩ := can_ex l; exact can_ins h x
noncomputable def canP (l : List Pv) : List Pv := Classical.choose (can_ex l)
theorem canP_can (l : List Pv) : IsCan l (canP l) := Classical.choose_spec (can_ex l)
theorem canP_eq {l ys : List Pv} (h : IsCan l ys) : ys = canP l := h.uniq (fun _ => Iff.rfl) (canP_can l)
noncomputable def evs (keys : List Nm) (xs : List Sg) : List Pv := canP ((xs.filter (fun x => verK keys x.p)).map Sg.p)
theorem evs_can (keys : List Nm) (xs : List Sg) : IsCan ((xs.filter (fun x => verK keys x.p)).map Sg.p) (evs keys xs) := canP_can _
theorem mem_flt {keys : List Nm} {xs : List Sg} {p : Pv} : p ∈ (xs.filter (fun x => verK keys x.p)).map Sg.p ↔ p ∈ xs.map Sg.p ∧ verK keys p = true := by
  constructor
  · intro h
    obtain ⟨x, hx, rfl⟩ := List.mem_map.1 h
    exact ⟨List.mem_map.2 ⟨x, (List.mem_filter.1 hx).1, rfl⟩, (List.mem_filter.1 hx).2⟩
  · rintro ⟨h, hv⟩
    obtain ⟨x, hx, rfl⟩ := List.mem_map.1 h
    exact List.mem_map.2 ⟨x, List.mem_filter.2 ⟨hx, hv⟩, rfl⟩
theorem evs_mem {keys : List Nm} {xs : List Sg} {p : Pv} (h : p ∈ evs keys xs) : p ∈ xs.map Sg.p ∧ verK keys p = true := mem_flt.1 ((evs_can keys xs).sub p h)
theorem evs_asc (keys : List Nm) (xs : List Sg) : asc (evs keys xs) := (evs_can keys xs).up
theorem evs_inR (keys : List Nm) (xs : List Sg) : inR (evs keys xs) := fun y hy => valid_signer (verK_valid (evs_mem hy).2)
theorem evs_sound {keys : List Nm} {xs : List Sg} {e : Pv × Pv} (he : e ∈ findP (evs keys xs)) : validE keys e = true ∧ e.1 ∈ xs.map Sg.p ∧ e.2 ∈ xs.map Sg.p ∧ 0 ≤ e.1.1.signer ∧ e.1.1.signer ≤ 9 := by
  obtain ⟨h1, h2, h3, h4, h5, h6⟩ := find_sound (evs_asc keys xs) (evs_inR keys xs) he
  have k1 := evs_mem h1
  have k2 := evs_mem h2
  refine ⟨?_, k1.1, k2.1, h5, h6⟩
  unfold validE
  rw [h4, k1.2, k2.2, (conflict_iff _ _).2 ⟨fun e => (by rw [e, less_irr] at h4; cases h4), h3, verK_valid k1.2, verK_valid k2.2⟩]; rfl
theorem evs_len (keys : List Nm) (xs : List Sg) : (findP (evs keys xs)).length ≤ 10 := find_len (evs_asc keys xs) (evs_inR keys xs)
noncomputable def gk (keys : List Nm) (xs : List Sg) : Int := guiltyP (evs keys xs)
end Go.Proofs.YteeopgpgbdhmhaaGreat
namespace Go.Proofs.YteeopgpgbdhmhaaGreat
open Go.RowKit Go.Lib
set_option linter.unusedVariables false
set_option linter.unusedSimpArgs false
def keyL (v : Vt) : List Value := [i64 v.kind, i64 v.slot, i64 v.round, i64 v.signer] ++ v.parent.l
def keyVt (v : Vt) : Value := .agg (keyL v).toArray
theorem keyVt_iff {a b : Vt} : keyVt a = keyVt b ↔ sameKey a b = true := by
  rw [sameKey_iff]
  unfold keyVt keyL
  constructor
  · intro h
    injection h with h
    have h2 := congrArg Array.toList h
    simp only [List.cons_append, List.nil_append, List.cons.injEq, i64, Value.int.injEq, true_and] at h2
    obtain ⟨h1, h3, h4, h5, h6⟩ := h2
    refine ⟨h1, ?_, h3, h4, h5⟩
    revert h6
    generalize a.parent = pa
    generalize b.parent = pb
    intro h6
    rcases pa with ⟨a0, a1, a2, a3, a4, a5, a6, a7⟩
    rcases pb with ⟨b0, b1, b2, b3, b4, b5, b6, b7⟩
    simp only [Nm.l, u8, List.cons.injEq, Value.int.injEq, true_and, and_true, Int.natCast_inj, UInt8.toNat_inj] at h6
    simp only [Nm.mk.injEq]
    exact h6
  · rintro ⟨h1, h2, h3, h4, h5⟩
    rw [h1, h2, h3, h4, h5]
theorem tsz : ∃ n, Tryz.prog.types.size + 1 = n + 3 := ⟨Tryz.prog.types.size - 2, by
  have : 2 ≤ Tryz.prog.types.size := of_decide_eq_true (by kernel_rfl)
  omega⟩
theorem keyed115 : Maps.Keyed Tryz.prog 59 :=
  Maps.Keyed.of_law (deep_law_gate laidOut (of_decide_eq_true (by kernel_rfl)) (of_decide_eq_true (by kernel_rfl)) (by kernel_rfl) (by kernel_rfl))
theorem mapM_ex {α β : Type} {f : α → Option β} : ∀ {l : List α}, (∀ x ∈ l, ∃ y, f x = some y) → ∃ ys, l.mapM f = some ys
  | [], _ => ⟨[], rfl⟩
  | x :: l, h => by
    obtain ⟨y, hy⟩ := h x (List.mem_cons_self ..)
    obtain ⟨ys, hys⟩ := mapM_ex (fun z hz => h z (List.mem_cons_of_mem _ hz))
    exact ⟨y :: ys, by simp [List.mapM_cons, hy, hys]⟩
theorem mapflat_ex {α β : Type} {f : α → Option (List β)} {l : List α} (h : ∀ x ∈ l, ∃ y, f x = some y) : ∃ r, Option.map List.flatten (l.mapM f) = some r := by
  obtain ⟨ys, hy⟩ := mapM_ex h
  rw [hy]; exact ⟨_, rfl⟩
theorem kl_int {P : Program} {d : Nat} {t : TypeId} {q : IntKind} {n : Int} (ht : P.underlying t = some (.int q)) (hw : q.min ≤ n ∧ n ≤ q.max) : ∃ l, P.keyLits (d + 1) t [.int q n] = some l := by
  refine ⟨[.int q n], ?_⟩
  simp [Program.keyLits, ht, Lit.wf, hw]
theorem kl_nm (d : Nat) (m : Nm) : ∃ l, Tryz.prog.keyLits (d + 2) 29 m.l = some l := by
  unfold Program.keyLits
  simp only [Tryz.underlying29]
  rw [if_pos (show m.l.length = Tryz.prog.cellsOf 29 by rw [cells24]; rfl)]
  obtain ⟨ys, hy⟩ := mapM_ex (f := fun i => Tryz.prog.keyLits (d + 1) 5 ((m.l.drop (i * Tryz.prog.cellsOf 5)).take (Tryz.prog.cellsOf 5))) (l := List.range 8) (fun i hi => by
    have hi8 : i < 8 := List.mem_range.1 hi
    have hc : Tryz.prog.cellsOf 5 = 1 := by kernel_rfl
    have hb : ∀ b : UInt8, IntKind.u8.min ≤ (b.toNat : Int) ∧ (b.toNat : Int) ≤ IntKind.u8.max := fun b => by
      have := b.toNat_lt
      constructor
      · exact Int.le_trans (by decide) (Int.natCast_nonneg _)
      · exact Int.le_trans (show (b.toNat : Int) ≤ 255 by omega) (by decide)
    rw [hc]
    rcases i with _ | _ | _ | _ | _ | _ | _ | _ | i
    · exact kl_int Tryz.underlying5 (hb m.b0)
    · exact kl_int Tryz.underlying5 (hb m.b1)
    · exact kl_int Tryz.underlying5 (hb m.b2)
    · exact kl_int Tryz.underlying5 (hb m.b3)
    · exact kl_int Tryz.underlying5 (hb m.b4)
    · exact kl_int Tryz.underlying5 (hb m.b5)
    · exact kl_int Tryz.underlying5 (hb m.b6)
    · exact kl_int Tryz.underlying5 (hb m.b7)
    · omega)
  rw [hy]
  exact ⟨_, rfl⟩
theorem valid_key {a : Vt} (hv : valid a = true) : (0 ≤ a.kind ∧ a.kind ≤ 7) ∧ (0 ≤ a.slot ∧ a.slot ≤ 9) ∧ (0 ≤ a.round ∧ a.round ≤ 12) ∧ (0 ≤ a.signer ∧ a.signer ≤ 9) := by
  unfold valid between at hv
  simp only [Bool.and_eq_true, decide_eq_true_eq, beq_iff_eq] at hv
  obtain ⟨⟨⟨⟨hk, hs⟩, _⟩, hsu⟩, hr⟩ := hv
  refine ⟨by omega, ?_, ?_, hs⟩ <;> ((repeat' split at hr) <;> simp at hr <;> omega)
theorem i64_in {n : Int} (h0 : 0 ≤ n) (h : n ≤ 12) : IntKind.i64.min ≤ n ∧ n ≤ IntKind.i64.max := ⟨Int.le_trans (by decide) h0, Int.le_trans h (by decide)⟩
theorem keyOf_ex {v : Vt} (h : valid v = true) : ∃ l, keyOf Tryz.prog 59 (keyVt v) = some l := by
  obtain ⟨h1, h2, h3, h4⟩ := valid_key h
  obtain ⟨n, hn⟩ := tsz
  unfold keyOf
  rw [Tryz.underlying59]
  simp only []
  have hkt : Tryz.prog.keyType 59 = true := by kernel_rfl
  have hc : Tryz.prog.cellsOf 59 = 12 := by kernel_rfl
  have hf : (keyVt v).formed Tryz.prog 59 = true := by
    unfold keyVt Value.formed
    rw [Tryz.underlying59, hc]; rfl
  rw [hkt, hf, hn]
  have hl : (keyVt v).cells.toList = keyL v := by unfold keyVt Value.cells; rfl
  rw [hl]
  have hk : ∃ l, Tryz.prog.keyLits (n + 3) 59 (keyL v) = some l := by
    unfold Program.keyLits
    simp only [Tryz.underlying59]
    rw [if_pos ⟨by rw [hc]; rfl, by kernel_rfl⟩]
    refine mapflat_ex fun f hf => ?_
    have c3 : Tryz.prog.cellsOf 3 = 1 := by kernel_rfl
    simp only [List.mem_cons, List.not_mem_nil, or_false] at hf
    rcases hf with rfl | rfl | rfl | rfl | rfl
    · show ∃ y, Tryz.prog.keyLits (n + 2) 3 (((keyL v).drop 0).take (Tryz.prog.cellsOf 3)) = some y
      rw [c3]; exact kl_int Tryz.underlying3 (i64_in h1.1 (by omega))
    · show ∃ y, Tryz.prog.keyLits (n + 2) 3 (((keyL v).drop 1).take (Tryz.prog.cellsOf 3)) = some y
      rw [c3]; exact kl_int Tryz.underlying3 (i64_in h2.1 (by omega))
    · show ∃ y, Tryz.prog.keyLits (n + 2) 3 (((keyL v).drop 2).take (Tryz.prog.cellsOf 3)) = some y
      rw [c3]; exact kl_int Tryz.underlying3 (i64_in h3.1 (by omega))
    · show ∃ y, Tryz.prog.keyLits (n + 2) 3 (((keyL v).drop 3).take (Tryz.prog.cellsOf 3)) = some y
      rw [c3]; exact kl_int Tryz.underlying3 (i64_in h4.1 (by omega))
    · show ∃ y, Tryz.prog.keyLits (n + 2) 29 (((keyL v).drop 4).take (Tryz.prog.cellsOf 29)) = some y
      rw [cells24]; exact kl_nm n v.parent
  obtain ⟨l, hl2⟩ := hk
  rw [hl2]
  exact ⟨_, rfl⟩
structure Mp (w : World) (m : Nat) (fs : List Sg) : Prop where
  obj : ∃ es c, w.heap[m]? = some (.map es c) ∧ es.toList.map (fun e => (e.key, e.val)) = fs.map (fun x => (keyVt x.vote, x.v))
  good : ∀ a ∈ fs, valid a.vote = true
  one : ∀ a ∈ fs, ∀ b ∈ fs, sameKey a.vote b.vote = true → a = b
theorem Mp.lt {w : World} {m : Nat} {fs : List Sg} (h : Mp w m fs) : m < w.heap.size := by
  obtain ⟨es, c, h1, _⟩ := h.obj
  exact (Array.getElem?_eq_some_iff.1 h1).1
theorem Mp.of_heap {w w' : World} {m : Nat} {fs : List Sg} (h : Mp w m fs) (e : w'.heap[m]? = w.heap[m]?) : Mp w' m fs := ⟨by rw [e]; exact h.obj, h.good, h.one⟩
theorem Mp.ext {w w' : World} {m : Nat} {fs : List Sg} (h : Mp w m fs) (e : Ext w w') : Mp w' m fs := h.of_heap (Below.block e m h.lt)
theorem Mp.kp {w w' : World} {g m : Nat} {fs : List Sg} (h : Mp w m fs) (k : Kp g w w') (hn : m ≠ g) : Mp w' m fs := h.of_heap (k.block m hn)
theorem Mp.chg {w w' : World} {g m : Nat} {fs : List Sg} (h : Mp w m fs) (k : Chg g w w') (hn : m ≠ g) : Mp w' m fs := h.of_heap (k.block m h.lt hn)
theorem Mp.grown {w w' : World} {m : Nat} {fs : List Sg} {row : Option Nat} (h : Mp w m fs) (g : w.grownBy w' row) (hr : row ≠ some m) : Mp w' m fs := h.of_heap (g.5 m h.lt hr.symm)
theorem Mp.ne {w : World} {m g' : Nat} {fs : List Sg} (h : Mp w m fs) (hg : w.heap.size ≤ g') : m ≠ g' := Nat.ne_of_lt (Nat.lt_of_lt_of_le h.lt hg)
theorem Mp.notB {w : World} {m : Nat} {fs : List Sg} (h : Mp w m fs) (hT : Nat.beq 0 5 = false) : ¬ isB w m := by
  rintro ⟨c, fz, hc⟩
  obtain ⟨es, k, h1, _⟩ := h.obj
  rw [h1] at hc; cases hc
theorem Mp.new {w : World} {m : Nat} (h : w.heap[m]? = some (.map #[] 0)) : Mp w m [] := ⟨⟨#[], 0, h, rfl⟩, by simp, by simp⟩
theorem own_neM {w : World} {lo : Nat} {e : TypeId} {sz n b : Nat} {v : Value} {xs : List Value} {fs : List Sg} (h : w.ownsRow lo e sz v n xs) (hb : Mp w b fs) : v.ownBlock ≠ some b := by
  obtain ⟨_, ⟨rfl, _⟩ | ⟨g, cap, cur, rfl, hg, hc, _⟩⟩ := h
  · simp [Value.ownBlock]
  · intro e'
    simp only [Value.ownBlock, Option.some.injEq] at e'
    subst e'
    obtain ⟨es, k, h1, _⟩ := hb.obj
    rw [h1] at hc; cases hc
def lookO (fs : List Sg) (v : Vt) : Option Sg := fs.find? fun a => sameKey a.vote v
def lookG (fs : List Sg) (v : Vt) : Sg := (lookO fs v).getD Sg.zero
def lookB (fs : List Sg) (v : Vt) : Bool := (lookO fs v).isSome
theorem lookG_mem {fs : List Sg} {v : Vt} (h : lookB fs v = true) : lookG fs v ∈ fs ∧ sameKey (lookG fs v).vote v = true := by
  unfold lookB at h
  unfold lookG
  cases e : lookO fs v with
  | none => rw [e] at h; cases h
  | some x => exact ⟨List.mem_of_find?_eq_some e, by unfold lookO at e; exact List.find?_some (p := fun a : Sg => sameKey a.vote v) e⟩
theorem lookG_no {fs : List Sg} {v : Vt} (h : lookB fs v = false) : lookG fs v = Sg.zero := by
  unfold lookB at h
  unfold lookG
  cases e : lookO fs v with
  | none => rfl
  | some x => rw [e] at h; cases h
theorem look_no {fs : List Sg} {v : Vt} (h : lookB fs v = false) : ∀ a ∈ fs, sameKey a.vote v = false := by
  unfold lookB at h
  cases e : lookO fs v with
  | none => intro a ha; simpa using List.find?_eq_none.1 e a ha
  | some x => rw [e] at h; cases h
def AllS (lo : Nat) (w : World) (ys : List Sg) : Prop := ∀ y ∈ ys, y.okf lo w
theorem AllS.fb {lo : Nat} {w w' : World} {ys : List Sg} (h : AllS lo w ys) (f : Fb lo w w') : AllS lo w' ys := fun y hy => (h y hy).fb f
theorem lookG_ok {lo : Nat} {w : World} {ys fs : List Sg} {v : Vt} (h : AllS lo w ys) (hs : ∀ a ∈ fs, a ∈ ys) : (lookG fs v).okf lo w := by
  cases e : lookB fs v with
  | true => exact h _ (hs _ (lookG_mem e).1)
  | false => rw [lookG_no e]; exact Sg.okz _ _
theorem Mp.find {w : World} {m : Nat} {fs : List Sg} (h : Mp w m fs) {v : Vt} (hv : valid v = true) {es : Array MapEntry} {c : Nat} (hm : w.heap[m]? = some (.map es c)) :
    (lookB fs v = false ∧ (Instr.findKey 59 (keyVt v) es.toList).run Tryz.prog w = .ok none w) ∨ (lookB fs v = true ∧ ∃ j, (Instr.findKey 59 (keyVt v) es.toList).run Tryz.prog w = .ok (some (j, (lookG fs v).v)) w) := by
  obtain ⟨es', c', h1, h2⟩ := h.obj
  rw [hm] at h1
  simp only [Option.some.injEq, Obj.map.injEq] at h1
  obtain ⟨rfl, rfl⟩ := h1
  obtain ⟨l, hl⟩ := keyOf_ex hv
  have hent : ∀ e ∈ es.toList, ∃ x ∈ fs, e.key = keyVt x.vote ∧ e.val = x.v := by
    intro e he
    have : (e.key, e.val) ∈ fs.map (fun x => (keyVt x.vote, x.v)) := by rw [← h2]; exact List.mem_map.2 ⟨e, he, rfl⟩
    obtain ⟨x, hx, e2⟩ := List.mem_map.1 this
    injection e2 with e3 e4
    exact ⟨x, hx, e3.symm, e4.symm⟩
  have hkeys : ∀ e ∈ es.toList, ∃ l, keyOf Tryz.prog 59 e.key = some l := by
    intro e he
    obtain ⟨x, hx, e1, _⟩ := hent e he
    rw [e1]; exact keyOf_ex (h.good x hx)
  rcases keyed115.find w hl es.toList hkeys with ⟨k1, k2⟩ | ⟨j, e, k1, k2, k3⟩
  · left
    refine ⟨?_, k1⟩
    cases hb : lookB fs v with
    | false => rfl
    | true =>
      exfalso
      obtain ⟨m1, m2⟩ := lookG_mem hb
      have : (keyVt (lookG fs v).vote, (lookG fs v).v) ∈ es.toList.map (fun e => (e.key, e.val)) := by rw [h2]; exact List.mem_map.2 ⟨_, m1, rfl⟩
      obtain ⟨e, he, e2⟩ := List.mem_map.1 this
      injection e2 with e3 e4
      exact k2 e he (e3.trans (keyVt_iff.2 m2))
  · right
    obtain ⟨x, hx, e1, e2⟩ := hent e (List.mem_of_getElem? k2)
    have hk : sameKey x.vote v = true := keyVt_iff.1 (e1.symm.trans k3)
    have hb : lookB fs v = true := by
      cases hb : lookB fs v with
      | true => rfl
      | false => have := look_no hb x hx; rw [hk] at this; cases this
    obtain ⟨m1, m2⟩ := lookG_mem hb
    have hx2 : lookG fs v = x := h.one _ m1 _ hx (sameKey_trans m2 (by rw [sameKey_symm]; exact hk))
    refine ⟨hb, j, ?_⟩
    rw [hx2, ← e2]; exact k1
section
variable {ρ : Operand → Value} {w : World} {dst : Option Tmp} {ty : TypeId} {pos : String} {aft : Array Edge} {gd : Option (Nat × Bool)}
theorem R_lookup {x y : Operand} {m : Nat} {fs : List Sg} {v : Vt} (hx : ρ x = .map (some m)) (hy : ρ y = keyVt v) (h : Mp w m fs) (hv : valid v = true) :
    (execOp ρ ⟨dst, .lookup 55 x y true, ty, pos, aft, gd⟩).run Tryz.prog w = .ok (.value (.tuple #[(lookG fs v).v, .bool (lookB fs v)])) w := by
  obtain ⟨es, c, h1, h2⟩ := h.obj
  obtain ⟨l, hl⟩ := keyOf_ex hv
  have hck := keyed115.check w es.isEmpty hl
  have hu : ∃ k e, Tryz.prog.underlying 55 = some (.map k e) ∧ k = 59 ∧ e = 34 := ⟨_, _, Tryz.underlying55, rfl, rfl⟩
  obtain ⟨k, e, hu, rfl, rfl⟩ := hu
  have hrun : (Instr.lookup 55 (.map (some m)) (keyVt v) true).run Tryz.prog w = .ok (.tuple #[(lookG fs v).v, .bool (lookB fs v)]) w := by
    unfold Instr.lookup
    simp only [Sem.run_bind, run_underlying hu, Result.andThen_ok, MapKept.run_getObj_map h1, Sem.run_pure, hck]
    rcases h.find hv h1 with ⟨hb, hf⟩ | ⟨hb, j, hf⟩
    · simp only [hf, Result.andThen_ok, Tryz.zeroValue34, Sem.run_bind, Sem.run_pure, hb, lookG_no hb]
      rfl
    · simp only [hf, Result.andThen_ok, Sem.run_bind, Sem.run_pure, hb]
      rfl
  simp [execOp, hx, hy, hrun]
theorem R_ixE {t e : TypeId} {len s : Nat} {x y : Operand} {g i : Nat} {k : IntKind} (ht : ∀ w, (underlying t).run Tryz.prog w = .ok (.array len e) w) (hs : ∀ w, (sizeOf e).run Tryz.prog w = .ok s w) (hx : ρ x = .pointer (some ⟨g, 0, none⟩)) (hy : ρ y = .int k ((i : Nat) : Int)) (hi : i < len) :
    (execOp ρ ⟨dst, .indexAddr t x y, ty, pos, aft, gd⟩).run Tryz.prog w = .ok (.value (.pointer (some ⟨g, i * s, none⟩))) w := by
  have := R_indexAddrA (dst := dst) (ty := ty) (pos := pos) (aft := aft) (gd := gd) (w := w) ht hs hx hy (Int.natCast_nonneg _) (by omega)
  rw [Int.toNat_natCast, Nat.zero_add] at this
  exact this
theorem R_ldBs {x : Operand} {g i : Nat} {bs : List Bool} {T : TypeId} (hb : Blk w g (bs.map Value.bool) T) (hx : ρ x = .pointer (some ⟨g, i * 1, none⟩)) (hi : i < bs.length) :
    (execOp ρ ⟨dst, .load 4 x, ty, pos, aft, gd⟩).run Tryz.prog w = .ok (.value (.bool (bs.getD i false))) w :=
  R_load Tryz.isAgg4 hb hx (by rw [Nat.mul_one, List.getElem?_map, getD_some (d := false) hi]; rfl)
theorem cE_len (es : List Ev) : (cE.cs es).length = es.length * 46 := cs_len es
theorem R_ldVe {x : Operand} {g i : Nat} {es : List Ev} {T : TypeId} (hb : Blk w g (cE.cs es) T) (hx : ρ x = .pointer (some ⟨g, i * 46 + 0 + 0, none⟩)) (hi : i < es.length) :
    (execOp ρ ⟨dst, .load 31 x, ty, pos, aft, gd⟩).run Tryz.prog w = .ok (.value (.agg (es.getD i Ev.zero).a.vote.l.toArray)) w := by
  refine R_loadA Tryz.isAgg31 Tryz.sizeOf31 hb hx ?_ (Nat.ble_eq_true_of_le (by rw [cE_len]; omega))
  apply List.ext_getElem?
  intro k
  rw [List.getElem?_take]
  by_cases hk : k < 22
  · rw [if_pos hk, List.getElem?_drop]
    have h1 := cs_at (C := cE) (getD_some (d := Ev.zero) hi) k (Nat.lt_of_lt_of_le hk (by decide))
    rw [show i * 46 + 0 + 0 + k = i * cE.sz + k from rfl, h1]
    have h2 : cE.l (es.getD i Ev.zero) = (es.getD i Ev.zero).a.vote.l ++ ([.slice (es.getD i Ev.zero).a.A (es.getD i Ev.zero).a.n (es.getD i Ev.zero).a.c] ++ (es.getD i Ev.zero).b.l) := by
      show (_ ++ _) ++ _ = _
      rw [List.append_assoc]
    rw [h2, List.getElem?_append_left (by rw [Vt.l_len]; exact hk)]
  · rw [if_neg hk, List.getElem?_eq_none (by rw [Vt.l_len]; omega)]
theorem R_ixAgg {t : TypeId} {len : Nat} {x y : Operand} {i : Nat} {k : IntKind} {es : List Ev} (ht : ∀ w, (underlying t).run Tryz.prog w = .ok (.array len 51) w) (hx : ρ x = .agg (cE.cs es).toArray) (hy : ρ y = .int k ((i : Nat) : Int)) (hl : es.length = len) (hi : i < len) :
    (execOp ρ ⟨dst, .index t x y, ty, pos, aft, gd⟩).run Tryz.prog w = .ok (.value (es.getD i Ev.zero).v) w := by
  have hp : (part 51 (cE.cs es).toArray (i * 46)).run Tryz.prog w = .ok (.agg (es.getD i Ev.zero).l.toArray) w := by
    refine run_partA Tryz.sizeOf51 Tryz.isAgg51 _ _ _ ?_ (Nat.ble_eq_true_of_le (by rw [cE_len]; omega)) w
    apply List.ext_getElem?
    intro j
    rw [List.getElem?_take]
    by_cases hj : j < 46
    · rw [if_pos hj, List.getElem?_drop]
      exact cs_at (C := cE) (getD_some (d := Ev.zero) (by omega)) j hj
    · rw [if_neg hj, List.getElem?_eq_none (by rw [Ev.l_len]; omega)]
  have h0 : (0 : Int) ≤ ((i : Nat) : Int) := Int.natCast_nonneg _
  have h1 : ((i : Nat) : Int) < ((len : Nat) : Int) := by omega
  simp [execOp, hx, hy, Instr.index, ht, asIntOf, Tryz.sizeOf51, h0, h1, hi, hp]
  rfl
end
section
variable {ops : Array Oper} {Q : Exit → Act → World → Prop} {K : Act → World → Prop} {n : Nat} {f : Nat → Value} {w : World} {d : Option Tmp} {ty : TypeId} {pos : String} {aft : Array Edge}
theorem D_mapUp {x y z : Operand} {m : Nat} {fs : List Sg} {s : Sg} (hx : ov n f x = .map (some m)) (hy : ov n f y = keyVt s.vote) (hz : ov n f z = s.v) (h : Mp w m fs) (hv : valid s.vote = true) (hb : lookB fs s.vote = false)
    (k : ∀ w', Kp m w w' → Mp w' m (fs ++ [s]) → K (E n (upo f d undef)) w') :
    wpO Tryz.prog ops Q ⟨d, .mapUpdate 55 x y z, ty, pos, aft, none⟩ K (E n f) w := by
  obtain ⟨es, c, h1, h2⟩ := h.obj
  obtain ⟨l, hl⟩ := keyOf_ex hv
  have hck := keyed115.check w false hl
  have hu : ∃ k e, Tryz.prog.underlying 55 = some (.map k e) ∧ k = 59 ∧ e = 34 := ⟨_, _, Tryz.underlying55, rfl, rfl⟩
  obtain ⟨kt, e, hu, rfl, rfl⟩ := hu
  have hf : (Instr.findKey 59 (keyVt s.vote) es.toList).run Tryz.prog w = .ok none w := by
    rcases h.find hv h1 with ⟨_, hf⟩ | ⟨hb2, _⟩
    · exact hf
    · rw [hb] at hb2; cases hb2
  have hrun : (Instr.mapUpdate 55 (.map (some m)) (keyVt s.vote) s.v).run Tryz.prog w = .ok () { w with heap := w.heap.setIfInBounds m (.map (es.push { key := keyVt s.vote, val := s.v, born := c }) (c + 1)) } := by
    unfold Instr.mapUpdate
    simp only [Sem.run_bind, run_underlying hu, Result.andThen_ok, MapKept.run_getObj_map h1, hck, hf, MapKept.run_setObj_map _ h1]
  refine D_skip (w' := { w with heap := w.heap.setIfInBounds m (.map (es.push { key := keyVt s.vote, val := s.v, born := c }) (c + 1)) }) ?_ (k _ ⟨rfl, rfl, rfl, by simp, fun j hj => by simp only [Array.getElem?_setIfInBounds]; rw [if_neg (fun e => hj e.symm)]⟩ ⟨⟨es.push { key := keyVt s.vote, val := s.v, born := c }, c + 1, ?_, ?_⟩, ?_, ?_⟩)
  · simp [execOp, hx, hy, hz, hrun]
  · have := h.lt
    simp [this]
  · simp [h2]
  · intro a ha
    rcases List.mem_append.1 ha with ha | ha
    · exact h.good a ha
    · rw [List.mem_singleton] at ha; rw [ha]; exact hv
  · intro a ha b hb2 hk
    rcases List.mem_append.1 ha with h3 | h3 <;> rcases List.mem_append.1 hb2 with h4 | h4
    · exact h.one a h3 b h4 hk
    · rw [List.mem_singleton] at h4; subst h4; rw [look_no hb a h3] at hk; cases hk
    · rw [List.mem_singleton] at h3; subst h3; rw [sameKey_symm, look_no hb b h4] at hk; cases hk
    · rw [List.mem_singleton] at h3 h4; rw [h3, h4]
theorem D_stEv {x y : Operand} {g i : Nat} {es : List Ev} {e : Ev} {T : TypeId} (hb : Blk w g (cE.cs es) T) (hx : ov n f x = .pointer (some ⟨g, i * 46, none⟩)) (hy : ov n f y = e.v) (hi : i < es.length)
    (k : ∀ w', Kp g w w' → Blk w' g (cE.cs (es.set i e)) T → K (E n (upo f d undef)) w') :
    wpO Tryz.prog ops Q ⟨d, .store 51 x y, ty, pos, aft, none⟩ K (E n f) w :=
  D_storeA (c := e.l) Tryz.sizeOf51 hb hx hy rfl (cE.pl e) (Nat.ble_eq_true_of_le (by rw [cE_len, Ev.l_len]; omega)) (cs_set (C := cE) e hi).symm k
theorem D_stBl {x y : Operand} {g i : Nat} {bs : List Bool} {b : Bool} {T : TypeId} (hb : Blk w g (bs.map Value.bool) T) (hx : ov n f x = .pointer (some ⟨g, i * 1, none⟩)) (hy : ov n f y = .bool b) (hi : i < bs.length)
    (k : ∀ w', Kp g w w' → Blk w' g ((bs.set i b).map Value.bool) T → K (E n (upo f d undef)) w') :
    wpO Tryz.prog ops Q ⟨d, .store 4 x y, ty, pos, aft, none⟩ K (E n f) w :=
  D_store1 Tryz.sizeOf4 hb hx hy rfl (Nat.ble_eq_true_of_le (by rw [List.length_map, Nat.mul_one]; omega)) (fun w' h1 h2 => k w' h1 (by rw [List.map_set]; rw [Nat.mul_one] at h2; exact h2))
end
theorem places115 (w : World) : ((#[⟨"kind", 3, 0, false, "", "forkledger/evidence", 0⟩, ⟨"slot", 3, 1, false, "", "forkledger/evidence", 8⟩, ⟨"round", 3, 2, false, "", "forkledger/evidence", 16⟩, ⟨"signer", 3, 3, false, "", "forkledger/evidence", 24⟩, ⟨"parent", 29, 4, false, "", "forkledger/evidence", 32⟩] : Array Field).mapM fun (f : Field) => Prod.mk f.offset <$> sizeOf f.type).run Tryz.prog w = .ok #[(0, 1), (1, 1), (2, 1), (3, 1), (4, 8)] w := by
  simp [Tryz.sizeOf29, Tryz.sizeOf3, go_sem]
theorem fill115 (v : Vt) : Instr.fill ((#[(0, 1), (1, 1), (2, 1), (3, 1), (4, 8)] : Array (Nat × Nat))[·]?) (keyL Vt.zero).toArray [(0, i64 v.kind), (1, i64 v.slot), (2, i64 v.round), (3, i64 v.signer), (4, .agg v.parent.l.toArray)] = some (keyL v).toArray := by
  rw [fill_step (off := 0) (size := 1) (c := [i64 v.kind]) rfl rfl rfl (by decide), fill_step (off := 1) (size := 1) (c := [i64 v.slot]) rfl rfl rfl (by simp [keyL, Nm.l]), fill_step (off := 2) (size := 1) (c := [i64 v.round]) rfl rfl rfl (by simp [keyL, Nm.l]), fill_step (off := 3) (size := 1) (c := [i64 v.signer]) rfl rfl rfl (by simp [keyL, Nm.l]), fill_step (off := 4) (size := 8) (c := v.parent.l) rfl rfl rfl (by simp [keyL, Nm.l]), Instr.fill]
  simp [keyL, Nm.l]
theorem zero112 : ∃ z, (∀ w, (zeroValue 56).run Tryz.prog w = .ok z w) ∧ z.cells = (cE.cs (List.replicate 10 Ev.zero)).toArray := ⟨_, Tryz.zeroValue56, by kernel_rfl⟩
theorem D_alloc112 {ops : Array Oper} {Q : Exit → Act → World → Prop} {K : Act → World → Prop} {n : Nat} {f : Nat → Value} {w : World} {d : Option Tmp} {ty : TypeId} {pos : String} {aft : Array Edge}
    (k : ∀ g w', Ext w w' → w.heap.size ≤ g → Blk w' g (cE.cs (List.replicate 10 Ev.zero)) 56 → K (E n (upo f d (.pointer (some ⟨g, 0, none⟩)))) w') :
    wpO Tryz.prog ops Q ⟨d, .alloc 56, ty, pos, aft, none⟩ K (E n f) w := by
  obtain ⟨z, h1, h2⟩ := zero112
  exact D_alloc h1 h2 k
def mixO (bs : List Bool) (es : List Ev) : List (Option (Pv × Pv)) := List.zipWith (fun b e => cond b (some e.p) none) bs es
def Fs (ys : List Pv) (fs : List Sg) (bs : List Bool) (es : List Ev) : Prop := ys.foldl fstep fst0 = (fs.map Sg.p, mixO bs es) ∧ bs.length = 10 ∧ es.length = 10
theorem Fs.zero : Fs [] [] (List.replicate 10 false) (List.replicate 10 Ev.zero) := ⟨rfl, rfl, rfl⟩
theorem look_map (fs : List Sg) (v : Vt) : look (fs.map Sg.p) v = (lookO fs v).map Sg.p := by
  unfold look lookO
  rw [List.find?_map]; rfl
theorem mix_at {bs : List Bool} {es : List Ev} {i : Nat} (hb : i < bs.length) (he : i < es.length) : (mixO bs es).getD i none = cond (bs.getD i false) (some (es.getD i Ev.zero).p) none := by
  unfold mixO
  rw [List.getD_eq_getElem?_getD, List.getElem?_zipWith, getD_some (d := false) hb, getD_some (d := Ev.zero) he]; rfl
theorem mix_set {bs : List Bool} {es : List Ev} {i : Nat} {e : Ev} (hb : i < bs.length) (he : i < es.length) : mixO (bs.set i true) (es.set i e) = (mixO bs es).set i (some e.p) := by
  apply List.ext_getElem?
  intro j
  unfold mixO
  rw [List.getElem?_zipWith, List.getElem?_set, List.getElem?_set, List.getElem?_set, List.getElem?_zipWith, List.length_zipWith]
  by_cases h : i = j
  · subst h
    rw [if_pos rfl, if_pos rfl, if_pos rfl, if_pos hb, if_pos he, if_pos (by omega)]; rfl
  · rw [if_neg h, if_neg h, if_neg h]
theorem take_p {ys : List Sg} {i : Nat} (hi : i < ys.length) : (ys.take (i + 1)).map Sg.p = (ys.take i).map Sg.p ++ [(ys.getD i Sg.zero).p] := by
  rw [List.take_add_one, List.map_append, getD_some (d := Sg.zero) hi]; rfl
theorem Fs.no {ys fs : List Sg} {bs : List Bool} {es : List Ev} {i : Nat} (h : Fs ((ys.take i).map Sg.p) fs bs es) (hi : i < ys.length) (hb : lookB fs (ys.getD i Sg.zero).vote = false) : Fs ((ys.take (i + 1)).map Sg.p) (fs ++ [ys.getD i Sg.zero]) bs es := by
  refine ⟨?_, h.2⟩
  rw [take_p hi, List.foldl_append, h.1, List.foldl_cons, List.foldl_nil]
  have hl : look (fs.map Sg.p) (ys.getD i Sg.zero).p.1 = none := by
    rw [look_map]
    unfold lookB at hb
    cases e : lookO fs (ys.getD i Sg.zero).p.1 with
    | none => rfl
    | some x => have : lookO fs (ys.getD i Sg.zero).vote = some x := e; rw [this] at hb; cases hb
  unfold fstep
  rw [hl, List.map_append]; rfl
theorem look_yes {fs : List Sg} {v : Vt} (hb : lookB fs v = true) : look (fs.map Sg.p) v = some (lookG fs v).p := by
  rw [look_map]
  unfold lookB at hb
  unfold lookG
  cases e : lookO fs v with
  | none => rw [e] at hb; cases hb
  | some x => rfl
theorem Fs.yes {ys fs : List Sg} {bs : List Bool} {es : List Ev} {i : Nat} (h : Fs ((ys.take i).map Sg.p) fs bs es) (hi : i < ys.length) (hb : lookB fs (ys.getD i Sg.zero).vote = true) (hs : (ys.getD i Sg.zero).vote.signer.toNat < 10)
    (hc : (!(bs.getD (ys.getD i Sg.zero).vote.signer.toNat false) || lessV (lookG fs (ys.getD i Sg.zero).vote).vote (es.getD (ys.getD i Sg.zero).vote.signer.toNat Ev.zero).a.vote) = true) :
    Fs ((ys.take (i + 1)).map Sg.p) fs (bs.set (ys.getD i Sg.zero).vote.signer.toNat true) (es.set (ys.getD i Sg.zero).vote.signer.toNat ⟨lookG fs (ys.getD i Sg.zero).vote, ys.getD i Sg.zero⟩) := by
  refine ⟨?_, by rw [List.length_set]; exact h.2.1, by rw [List.length_set]; exact h.2.2⟩
  rw [take_p hi, List.foldl_append, h.1, List.foldl_cons, List.foldl_nil]
  have hl : look (fs.map Sg.p) (ys.getD i Sg.zero).p.1 = some (lookG fs (ys.getD i Sg.zero).vote).p := look_yes hb
  unfold fstep
  rw [hl]
  show (if betters _ ((mixO bs es).getD (ys.getD i Sg.zero).vote.signer.toNat none) then _ else _) = _
  have hb10 := h.2.1
  have he10 := h.2.2
  rw [mix_at (by omega) (by omega), if_pos ?_, mix_set (by omega) (by omega)]
  · rfl
  · cases hbb : bs.getD (ys.getD i Sg.zero).vote.signer.toNat false with
    | false => rfl
    | true => rw [hbb] at hc; exact hc
theorem Fs.same {ys fs : List Sg} {bs : List Bool} {es : List Ev} {i : Nat} (h : Fs ((ys.take i).map Sg.p) fs bs es) (hi : i < ys.length) (hb : lookB fs (ys.getD i Sg.zero).vote = true) (hs : (ys.getD i Sg.zero).vote.signer.toNat < 10)
    (hc : (!(bs.getD (ys.getD i Sg.zero).vote.signer.toNat false) || lessV (lookG fs (ys.getD i Sg.zero).vote).vote (es.getD (ys.getD i Sg.zero).vote.signer.toNat Ev.zero).a.vote) = false) :
    Fs ((ys.take (i + 1)).map Sg.p) fs bs es := by
  refine ⟨?_, h.2⟩
  rw [take_p hi, List.foldl_append, h.1, List.foldl_cons, List.foldl_nil]
  have hl : look (fs.map Sg.p) (ys.getD i Sg.zero).p.1 = some (lookG fs (ys.getD i Sg.zero).vote).p := look_yes hb
  unfold fstep
  rw [hl]
  show (if betters _ ((mixO bs es).getD (ys.getD i Sg.zero).vote.signer.toNat none) then _ else _) = _
  have hb10 := h.2.1
  have he10 := h.2.2
  rw [mix_at (by omega) (by omega), if_neg ?_]
  cases hbb : bs.getD (ys.getD i Sg.zero).vote.signer.toNat false with
  | false => rw [hbb] at hc; cases hc
  | true => rw [hbb] at hc; show ¬ lessV _ _ = true; intro h2; have h3 : lessV (lookG fs (ys.getD i Sg.zero).vote).vote (es.getD (ys.getD i Sg.zero).vote.signer.toNat Ev.zero).a.vote = true := h2; rw [h3] at hc; cases hc
theorem ev_set {ys : List Sg} {es : List Ev} {i : Nat} {a b : Sg} (h : ∀ e ∈ es, e = Ev.zero ∨ e.a ∈ ys ∧ e.b ∈ ys) (ha : a ∈ ys) (hb : b ∈ ys) : ∀ e ∈ es.set i ⟨a, b⟩, e = Ev.zero ∨ e.a ∈ ys ∧ e.b ∈ ys := by
  intro e he
  rcases List.mem_or_eq_of_mem_set he with h1 | h1
  · exact h e h1
  · rw [h1]; exact .inr ⟨ha, hb⟩
theorem evs_vs {keys : List Nm} {xs ys : List Sg} (h : ys.map Sg.p = evs keys xs) : ∀ y ∈ ys, verK keys y.p = true := fun y hy => (evs_mem (show y.p ∈ evs keys xs by rw [← h]; exact List.mem_map.2 ⟨y, hy, rfl⟩)).2
theorem ev_sig {keys : List Nm} {ys : List Sg} {es : List Ev} (hv : ∀ y ∈ ys, verK keys y.p = true) (he : ∀ e ∈ es, e = Ev.zero ∨ e.a ∈ ys ∧ e.b ∈ ys) {i : Nat} : (es.getD i Ev.zero).a.sig.length ≤ 140737488355328 ∧ (es.getD i Ev.zero).b.sig.length ≤ 140737488355328 := by
  have hz : Ev.zero.a.sig.length ≤ 140737488355328 ∧ Ev.zero.b.sig.length ≤ 140737488355328 := ⟨Nat.zero_le _, Nat.zero_le _⟩
  by_cases hi : i < es.length
  · rcases he _ (List.mem_of_getElem? (getD_some (d := Ev.zero) hi)) with h1 | ⟨h1, h2⟩
    · rw [h1]; exact hz
    · exact ⟨verK_sig (hv _ h1), verK_sig (hv _ h2)⟩
  · have : es.getD i Ev.zero = Ev.zero := by rw [List.getD_eq_getElem?_getD, List.getElem?_eq_none (by omega)]; rfl
    rw [this]; exact hz
theorem evs_sg {keys : List Nm} {xs : List Sg} {es : List Ev} (h : es.map Ev.p = findP (evs keys xs)) {i : Nat} (hi : i < es.length) : 0 ≤ (es.getD i Ev.zero).a.vote.signer ∧ (es.getD i Ev.zero).a.vote.signer ≤ 9 := by
  have hm : (es.getD i Ev.zero).p ∈ findP (evs keys xs) := by rw [← h]; exact List.mem_map.2 ⟨_, List.mem_of_getElem? (getD_some (d := Ev.zero) hi), rfl⟩
  exact (evs_sound hm).2.2.2
theorem evs_el {keys : List Nm} {xs : List Sg} {es : List Ev} (h : es.map Ev.p = findP (evs keys xs)) : es.length ≤ 10 := by
  have := congrArg List.length h
  rw [List.length_map] at this
  rw [this]; exact evs_len keys xs
theorem mask_step {es : List Ev} {i : Nat} {g : Int} (hg : g = maskP ((es.take i).map Ev.p) 0) (hi : i < es.length) : bits .or .i64 g (bitI (es.getD i Ev.zero).a.vote.signer) = maskP ((es.take (i + 1)).map Ev.p) 0 := by
  rw [List.take_add_one, List.map_append, getD_some (d := Ev.zero) hi, hg]
  unfold maskP
  rw [List.foldl_append]; rfl
theorem mask_all {keys : List Nm} {xs : List Sg} {es : List Ev} (h : es.map Ev.p = findP (evs keys xs)) : maskP ((es.take es.length).map Ev.p) 0 = gk keys xs := by
  rw [List.take_of_length_le (Nat.le_refl _), h]; rfl
theorem R_ldWhole {P : Program} {ρ : Operand → Value} {w : World} {dst : Option Tmp} {ty : TypeId} {pos : String} {aft : Array Edge} {gd : Option (Nat × Bool)} {t : TypeId} {x : Operand} {g s : Nat} {l : List Value} {T : TypeId} (ht : ∀ w, (isAgg t).run P w = .ok true w) (hs : ∀ w, (sizeOf t).run P w = .ok s w) (hb : Blk w g l T) (hx : ρ x = .pointer (some ⟨g, 0, none⟩)) (hl : l.length = s) :
    (execOp ρ ⟨dst, .load t x, ty, pos, aft, gd⟩).run P w = .ok (.value (.agg l.toArray)) w :=
  R_loadA ht hs hb hx (by rw [List.drop_zero, List.take_of_length_le (Nat.le_of_eq hl)]) (Nat.ble_eq_true_of_le (by omega))
def outE (bs : List Bool) (es : List Ev) (i : Nat) : List (Pv × Pv) := ((mixO bs es).take i).filterMap id
theorem outE_y {bs : List Bool} {es : List Ev} {i : Nat} (hb : i < bs.length) (he : i < es.length) (h : bs.getD i false = true) : outE bs es (i + 1) = outE bs es i ++ [(es.getD i Ev.zero).p] := by
  unfold outE
  have hm : i < (mixO bs es).length := by unfold mixO; rw [List.length_zipWith]; omega
  rw [List.take_add_one, getD_some (d := none) hm, mix_at hb he, h, List.filterMap_append]; rfl
theorem outE_n {bs : List Bool} {es : List Ev} {i : Nat} (hb : i < bs.length) (he : i < es.length) (h : bs.getD i false = false) : outE bs es (i + 1) = outE bs es i := by
  unfold outE
  have hm : i < (mixO bs es).length := by unfold mixO; rw [List.length_zipWith]; omega
  rw [List.take_add_one, getD_some (d := none) hm, mix_at hb he, h, List.filterMap_append]
  simp
theorem outE_all {ys : List Pv} {fs : List Sg} {bs : List Bool} {es : List Ev} (h : Fs ys fs bs es) : outE bs es 10 = findP ys := by
  unfold outE findP
  rw [h.1]
  have hm : (mixO bs es).length = 10 := by unfold mixO; rw [List.length_zipWith, h.2.1, h.2.2]; rfl
  rw [List.take_of_length_le (by omega)]
theorem evok {lo : Nat} {w : World} {ys : List Sg} {es : List Ev} (h : AllS lo w ys) (he : ∀ e ∈ es, e = Ev.zero ∨ e.a ∈ ys ∧ e.b ∈ ys) {i : Nat} : (es.getD i Ev.zero).okf lo w := by
  by_cases hi : i < es.length
  · have hm : es.getD i Ev.zero ∈ es := List.mem_of_getElem? (getD_some (d := Ev.zero) hi)
    rcases he _ hm with h1 | ⟨h1, h2⟩
    · rw [h1]; exact Ev.okz _ _
    · exact ⟨h _ h1, h _ h2⟩
  · have : es.getD i Ev.zero = Ev.zero := by rw [List.getD_eq_getElem?_getD, List.getElem?_eq_none (by omega)]; rfl
    rw [this]; exact Ev.okz _ _
end Go.Proofs.YteeopgpgbdhmhaaGreat
namespace Go.Proofs.YteeopgpgbdhmhaaGreat
open Go.RowKit
set_option linter.unusedVariables false
set_option linter.unusedSimpArgs false
attribute [local irreducible] wpList wpO H wpQuiet wpStill Code.wp Exit.then Exit.inBlock bodyPost Code.rounds Calls valid sameKey conflict lessV hless num between
set_option maxRecDepth 4000 in
set_option maxHeartbeats 1000000 in
theorem c103 (v : Vt) (w : World) : Calls Tryz.prog 27 [v.v].toArray w (Ret w (keyVt v)) := by
  refine enter Tryz.func27 Tryz.ntmps27 rfl rfl ?_
  have hE := Ext.refl w
  refine wp_seq ?_
  refine W_region ?_
  refine L (D_box (c := (v).l) (rfl) (fun aB1_0 w1_0 e1_0 gB1_0 hB1_0 => ?_))
  have lB1_0 := Nat.le_trans hE.size gB1_0
  replace hE := hE.trans e1_0
  refine L (D_alloc Tryz.zeroValue59 rfl (fun aB1_1 w1_1 e1_1 gB1_1 hB1_1 => ?_))
  have lB1_1 := Nat.le_trans hE.size gB1_1
  have nB1_0B1_1 := hB1_0.ne gB1_1
  replace hE := hE.trans e1_1
  replace hB1_0 := hB1_0.ext e1_1
  refine S_nil ?_
  refine T_tn ?_
  refine wp_seq ?_
  refine W_region ?_
  refine L (D_v (R_fieldAddr Tryz.runUnderlying31 rfl Tryz.sizeOf3 rfl) ?_)
  refine L (D_v (R_load Tryz.isAgg3 hB1_0 rfl rfl) ?_)
  refine L (D_v (R_fieldAddr Tryz.runUnderlying31 rfl Tryz.sizeOf3 rfl) ?_)
  refine L (D_v (R_load Tryz.isAgg3 hB1_0 rfl rfl) ?_)
  refine L (D_v (R_fieldAddr Tryz.runUnderlying31 rfl Tryz.sizeOf3 rfl) ?_)
  refine L (D_v (R_load Tryz.isAgg3 hB1_0 rfl rfl) ?_)
  refine L (D_v (R_fieldAddr Tryz.runUnderlying31 rfl Tryz.sizeOf3 rfl) ?_)
  refine L (D_v (R_load Tryz.isAgg3 hB1_0 rfl rfl) ?_)
  refine L (D_v (R_fieldAddr Tryz.runUnderlying31 rfl Tryz.sizeOf29 rfl) ?_)
  refine L (D_v (R_loadA (c := (v.parent).l) Tryz.isAgg29 Tryz.sizeOf29 hB1_0 rfl rfl rfl) ?_)
  refine L (D_v (R_buildS (vs := [(0, i64 (v).kind), (1, i64 (v).slot), (2, i64 (v).round), (3, i64 (v).signer), (4, .agg (v).parent.l.toArray)]) (c := keyL (v)) Tryz.runUnderlying59 places115 Tryz.zeroValue59 rfl (fill115 _)) ?_)
  have h0 := hB1_1
  refine L (D_storeA Tryz.sizeOf59 hB1_1 rfl rfl rfl rfl rfl (l' := (keyL (v))) rfl (fun w2_11 k2_11 hB1_1 => ?_))
  replace hE := hE.kp k2_11 lB1_1
  replace hB1_0 := hB1_0.kp k2_11 nB1_0B1_1
  refine S_nil ?_
  refine T_tn ?_
  refine wp_ret ?_
  refine retc (c := keyL v) rfl rfl Tryz.isAgg59 Tryz.sizeOf59 hB1_1 rfl rfl ⟨rfl, hE⟩
set_option maxRecDepth 4000 in
set_option maxHeartbeats 4000000 in
theorem c73 (vk : Value) (keys : List Nm) (lo : Nat) (v : Value) (xs : List Sg) (w : World) (hk : Ls cN w.heap.size w vk keys) (hlo : lo ≤ w.heap.size) (hn : xs.length ≤ 1000000) (h : Ls cS lo w v xs) : Calls Tryz.prog 11 [vk, v].toArray w (RetE w fun r w' => ∃ es, Ow cE lo w.heap.size w' r es ∧ es.map Ev.p = findP (evs keys xs)) := by
  refine enter Tryz.func11 Tryz.ntmps11 rfl rfl ?_
  have hE := Ext.refl w
  refine wp_seq ?_
  refine W_region ?_
  refine L (D_v (R_assign rfl) ?_)
  refine S_nil ?_
  refine T_tn ?_
  refine wp_seq ?_
  refine W_region ?_
  refine L (D_v (R_move rfl) ?_)
  refine L (D_v (R_move rfl) ?_)
  refine L (D_callE (R_callF Tryz.call7 rfl rfl) (c102 vk (keys) lo v (xs) _ ((hk.ext hE).lev fun _ _ _ => trivial) (Nat.le_trans hlo hE.size) (by (try simp only [List.length_take, List.length_drop, List.length_append, List.length_cons, List.length_nil, List.length_replicate, List.length_set, Nm.b_len, be2_len]); omega) (h.ext hE)) (fun v2_2 w2_2 e2_2 p2_2 => ?_))
  obtain ⟨y2_2, o2_2, zz2_2, za2_2, zb2_2, zc2_2, zd2_2⟩ := p2_2
  replace o2_2 := o2_2.low hE.size
  replace hE := hE.trans e2_2
  have hys : AllS lo _ y2_2 := o2_2.2
  have hyE : y2_2.map Sg.p = evs keys xs := canP_eq (can_of zc2_2 zb2_2 zd2_2)
  have hyv := evs_vs hyE
  have hyl : y2_2.length ≤ 1000000 := by have h9 := ddn_len zz2_2 zz2_2.length; rw [← zd2_2] at h9; refine Nat.le_trans h9 (Nat.le_trans (Nat.le_of_eq za2_2) (Nat.le_trans (List.length_filter_le _ _) (by omega)))
  refine L (D_v (R_assign rfl) ?_)
  refine S_nil ?_
  refine T_tn ?_
  refine wp_seq ?_
  refine W_region ?_
  refine L (D_makeMap (fun aM3_0 w3_0 e3_0 gM3_0 zM3_0 => ?_))
  have hM3_0 := Mp.new zM3_0
  have lM3_0 := Nat.le_trans hE.size gM3_0
  replace hE := hE.trans e3_0
  replace o2_2 := o2_2.ext e3_0
  replace hys := hys.fb (Fb.ext e3_0)
  refine L (D_v (R_assign rfl) ?_)
  refine S_nil ?_
  refine T_tn ?_
  refine wp_seq ?_
  refine W_region ?_
  refine L (D_alloc112 (fun aB4_0 w4_0 e4_0 gB4_0 hB4_0 => ?_))
  have lB4_0 := Nat.le_trans hE.size gB4_0
  have nM3_0B4_0 := hM3_0.ne gB4_0
  replace hE := hE.trans e4_0
  replace hM3_0 := hM3_0.ext e4_0
  replace o2_2 := o2_2.ext e4_0
  replace hys := hys.fb (Fb.ext e4_0)
  refine S_nil ?_
  refine T_tn ?_
  refine wp_seq ?_
  refine W_region ?_
  refine L (D_alloc (c := (((List.replicate 10 false)).map Value.bool)) Tryz.zeroValue57 rfl (fun aB5_0 w5_0 e5_0 gB5_0 hB5_0 => ?_))
  have lB5_0 := Nat.le_trans hE.size gB5_0
  have nM3_0B5_0 := hM3_0.ne gB5_0
  have nB4_0B5_0 := hB4_0.ne gB5_0
  replace hE := hE.trans e5_0
  replace hM3_0 := hM3_0.ext e5_0
  replace hB4_0 := hB4_0.ext e5_0
  replace o2_2 := o2_2.ext e5_0
  replace hys := hys.fb (Fb.ext e5_0)
  refine S_nil ?_
  refine T_tn ?_
  refine wp_seq ?_
  refine wp_seq ?_
  refine W_region ?_
  refine L (D_v (R_move rfl) ?_)
  refine L (D_v (R_len Tryz.underlying23 rfl o2_2.ls.1) ?_)
  refine L (D_v (R_move rfl) ?_)
  refine S_nil ?_
  refine T_tn ?_
  refine wp_block ?_
  refine W_loop (fun mz g W => ∃ (i : Nat) (fs : List Sg) (es : List Ev) (bs : List Bool), mz = y2_2.length - i ∧ g 6 = .map (some aM3_0) ∧ g 7 = .pointer (some ⟨aB4_0, 0, none⟩) ∧ g 8 = .pointer (some ⟨aB5_0, 0, none⟩) ∧ g 22 = v2_2 ∧ g 23 = i64 (((y2_2).length : Nat) : Int) ∧ g 24 = i64 ((i : Nat) : Int) ∧ Ext w W ∧ Mp W aM3_0 (fs) ∧ Blk W aB4_0 (cE.cs es) 56 ∧ Blk W aB5_0 ((bs).map Value.bool) 57 ∧ Ow cS lo w.heap.size W v2_2 y2_2 ∧ AllS lo W y2_2 ∧ i ≤ y2_2.length ∧ (∀ a ∈ fs, a ∈ y2_2) ∧ ((∀ e ∈ es, e = Ev.zero ∨ e.a ∈ y2_2 ∧ e.b ∈ y2_2)) ∧ Fs ((y2_2.take i).map Sg.p) fs bs es) ⟨0, _, _, _, rfl, rfl, rfl, rfl, rfl, rfl, rfl, hE, hM3_0, hB4_0, hB5_0, o2_2, hys, (Nat.zero_le _), (by simp), (fun e he => .inl (List.eq_of_mem_replicate he)), Fs.zero⟩ ?_
  rintro mz f7 w7l ⟨i, fs, es, bs, hm, q6, q7, q8, q22, q23, q24, hE, hM3_0, hB4_0, hB5_0, ov2_2, hys, hi, hfs, hev, hst⟩
  refine wp_seq ?_
  refine W_region ?_
  refine L (D_v (R_lssI q24 q23) ?_)
  refine S_nil ?_
  refine T_tn ?_
  refine wp_seq ?_
  refine W_if rfl (fun c1 => ?_) (fun c1 => ?_)
  ·
    have lk : i < y2_2.length := by have h9 := of_decide_eq_true c1; omega
    have hym : (y2_2.getD i Sg.zero) ∈ y2_2 := List.mem_of_getElem? (getD_some lk)
    have hvy := hyv _ hym
    have hva := verK_valid hvy
    have hsr := valid_signer hva
    have hsn : (y2_2.getD i Sg.zero).vote.signer = (((y2_2.getD i Sg.zero).vote.signer.toNat : Nat) : Int) := (Int.toNat_of_nonneg hsr.1).symm
    have hs10 : (y2_2.getD i Sg.zero).vote.signer.toNat < 10 := by have h8 : (y2_2.getD i Sg.zero).vote.signer ≤ 9 := hsr.2; omega
    refine wp_skip ?_
    refine T_tn ?_
    refine wp_seq ?_
    refine wp_block ?_
    refine wp_seq ?_
    refine W_region ?_
    refine L (D_v (R_elAddr (i := i) Tryz.underlying23 Tryz.sizeOf34 q22 q24 ov2_2.ls.1 (by (try simp only [List.length_take, List.length_drop, List.length_append, List.length_cons, List.length_nil, List.length_replicate, List.length_set, Nm.b_len, be2_len]); omega)) ?_)
    have k9_1 := (ov2_2.ls).get (i := i) (getD_some (d := Sg.zero) (by (try simp only [List.length_take, List.length_drop, List.length_append, List.length_cons, List.length_nil, List.length_replicate, List.length_set, Nm.b_len, be2_len]); omega))
    refine L (D_v (R_ldL (C := cS) (i := i) (y := ((y2_2).getD (i) Sg.zero)) Tryz.isAgg34 Tryz.sizeOf34 rfl ov2_2.ls (getD_some (d := Sg.zero) (by (try simp only [List.length_take, List.length_drop, List.length_append, List.length_cons, List.length_nil, List.length_replicate, List.length_set, Nm.b_len, be2_len]); omega))) ?_)
    refine L (D_alloc (c := (Sg.zero).l) Tryz.zeroValue34 rfl (fun aB9_2 w9_2 e9_2 gB9_2 hB9_2 => ?_))
    have lB9_2 := Nat.le_trans hE.size gB9_2
    have nM3_0B9_2 := hM3_0.ne gB9_2
    have nB4_0B9_2 := hB4_0.ne gB9_2
    have nB5_0B9_2 := hB5_0.ne gB9_2
    have yv2_2_B9_2 : Value.ownBlock v2_2 ≠ some aB9_2 := fun hk => absurd (own_lt ov2_2.1 hk) (Nat.not_lt.2 gB9_2)
    replace hE := hE.trans e9_2
    replace hM3_0 := hM3_0.ext e9_2
    replace hB4_0 := hB4_0.ext e9_2
    replace hB5_0 := hB5_0.ext e9_2
    replace ov2_2 := ov2_2.ext e9_2
    replace hys := hys.fb (Fb.ext e9_2)
    replace k9_1 := k9_1.fb (Fb.ext e9_2)
    have xov2_2 := yv2_2_B9_2
    have h0 := hB9_2
    refine L (D_storeA Tryz.sizeOf34 hB9_2 rfl rfl rfl rfl rfl (l' := (((y2_2).getD (i) Sg.zero)).l) rfl (fun w9_3 k9_3 hB9_2 => ?_))
    have f9_3 := Fb.kp k9_3 (Nat.le_trans hlo lB9_2) (Blk.notB h0 rfl)
    replace hE := hE.kp k9_3 lB9_2
    replace hM3_0 := hM3_0.kp k9_3 nM3_0B9_2
    replace hB4_0 := hB4_0.kp k9_3 nB4_0B9_2
    replace hB5_0 := hB5_0.kp k9_3 nB5_0B9_2
    replace ov2_2 := ov2_2.kp k9_3 xov2_2 f9_3
    replace hys := hys.fb f9_3
    replace k9_1 := k9_1.fb f9_3
    refine S_nil ?_
    refine T_tn ?_
    refine wp_seq ?_
    refine W_region ?_
    refine L (D_v (R_fieldAddr Tryz.runUnderlying34 rfl Tryz.sizeOf31 rfl) ?_)
    refine L (D_v (R_fieldAddr Tryz.runUnderlying31 rfl Tryz.sizeOf3 rfl) ?_)
    refine L (D_v (R_load Tryz.isAgg3 hB9_2 rfl rfl) ?_)
    refine L (D_v (R_assign rfl) ?_)
    refine S_nil ?_
    refine T_tn ?_
    refine wp_seq ?_
    refine W_region ?_
    refine L (D_v (R_move q6) ?_)
    refine L (D_v (R_fieldAddr Tryz.runUnderlying34 rfl Tryz.sizeOf31 rfl) ?_)
    refine L (D_v (R_loadA (c := ((((y2_2).getD (i) Sg.zero)).vote).l) Tryz.isAgg31 Tryz.sizeOf31 hB9_2 rfl rfl rfl) ?_)
    refine L (D_call (R_callF Tryz.call27 rfl rfl) (c103 ((((y2_2).getD (i) Sg.zero)).vote) _) (fun w11_3 e11_3 => ?_))
    replace hE := hE.trans e11_3
    replace hM3_0 := hM3_0.ext e11_3
    replace hB4_0 := hB4_0.ext e11_3
    replace hB5_0 := hB5_0.ext e11_3
    replace hB9_2 := hB9_2.ext e11_3
    replace ov2_2 := ov2_2.ext e11_3
    replace hys := hys.fb (Fb.ext e11_3)
    replace k9_1 := k9_1.fb (Fb.ext e11_3)
    have k11_4 : Sg.okf lo _ (lookG (fs) ((((y2_2).getD (i) Sg.zero)).vote)) := lookG_ok hys hfs
    refine L (D_v (R_lookup (fs := fs) (v := (((y2_2).getD (i) Sg.zero)).vote) rfl rfl hM3_0 hva) ?_)
    refine L (D_v (R_move rfl) ?_)
    refine L (D_v (R_extract rfl rfl) ?_)
    refine L (D_v (R_extract rfl rfl) ?_)
    refine L (D_alloc (c := (Sg.zero).l) Tryz.zeroValue34 rfl (fun aB11_8 w11_8 e11_8 gB11_8 hB11_8 => ?_))
    have lB11_8 := Nat.le_trans hE.size gB11_8
    have nM3_0B11_8 := hM3_0.ne gB11_8
    have nB4_0B11_8 := hB4_0.ne gB11_8
    have nB5_0B11_8 := hB5_0.ne gB11_8
    have nB9_2B11_8 := hB9_2.ne gB11_8
    have yv2_2_B11_8 : Value.ownBlock v2_2 ≠ some aB11_8 := fun hk => absurd (own_lt ov2_2.1 hk) (Nat.not_lt.2 gB11_8)
    replace hE := hE.trans e11_8
    replace hM3_0 := hM3_0.ext e11_8
    replace hB4_0 := hB4_0.ext e11_8
    replace hB5_0 := hB5_0.ext e11_8
    replace hB9_2 := hB9_2.ext e11_8
    replace ov2_2 := ov2_2.ext e11_8
    replace hys := hys.fb (Fb.ext e11_8)
    replace k9_1 := k9_1.fb (Fb.ext e11_8)
    replace k11_4 := k11_4.fb (Fb.ext e11_8)
    have xov2_2 := yv2_2_B11_8
    have h0 := hB11_8
    refine L (D_storeA Tryz.sizeOf34 hB11_8 rfl rfl rfl rfl rfl (l' := ((lookG (fs) ((((y2_2).getD (i) Sg.zero)).vote))).l) rfl (fun w11_9 k11_9 hB11_8 => ?_))
    have f11_9 := Fb.kp k11_9 (Nat.le_trans hlo lB11_8) (Blk.notB h0 rfl)
    replace hE := hE.kp k11_9 lB11_8
    replace hM3_0 := hM3_0.kp k11_9 nM3_0B11_8
    replace hB4_0 := hB4_0.kp k11_9 nB4_0B11_8
    replace hB5_0 := hB5_0.kp k11_9 nB5_0B11_8
    replace hB9_2 := hB9_2.kp k11_9 nB9_2B11_8
    replace ov2_2 := ov2_2.kp k11_9 xov2_2 f11_9
    replace hys := hys.fb f11_9
    replace k9_1 := k9_1.fb f11_9
    replace k11_4 := k11_4.fb f11_9
    refine L (D_v (R_assign rfl) ?_)
    refine S_nil ?_
    refine T_tn ?_
    refine wp_seq ?_
    refine wp_seq ?_
    refine W_region ?_
    refine L (D_v (R_move rfl) ?_)
    refine L (D_v (R_not rfl) ?_)
    refine S_nil ?_
    refine T_tn ?_
    refine W_if rfl (fun c2 => ?_) (fun c2 => ?_)
    ·
      have hlb : lookB fs (y2_2.getD i Sg.zero).vote = false := by simpa using c2
      have hst2 := hst.no lk hlb
      refine wp_seq ?_
      refine W_held (fun W => Ext w W ∧ Blk W aB4_0 (cE.cs es) 56 ∧ Blk W aB5_0 ((bs).map Value.bool) 57 ∧ Blk W aB9_2 (((y2_2).getD (i) Sg.zero)).l 34 ∧ Ow cS lo w.heap.size W v2_2 y2_2 ∧ AllS lo W y2_2 ∧ Sg.okf lo W (((y2_2).getD (i) Sg.zero)) ∧ Sg.okf lo W (lookG (fs) ((((y2_2).getD (i) Sg.zero)).vote)) ∧ True) mixed (fun w13_99 e13_99 => ?_)
      replace hE := hE.trans e13_99
      replace hM3_0 := hM3_0.ext e13_99
      replace hB4_0 := hB4_0.ext e13_99
      replace hB5_0 := hB5_0.ext e13_99
      replace hB9_2 := hB9_2.ext e13_99
      replace ov2_2 := ov2_2.ext e13_99
      replace hys := hys.fb (Fb.ext e13_99)
      replace k9_1 := k9_1.fb (Fb.ext e13_99)
      replace k11_4 := k11_4.fb (Fb.ext e13_99)
      refine H_take (i := 0) rfl (by kernel_rfl) (by kernel_rfl) (by kernel_rfl) rfl (pq_then (pq_then (pq_block (pq_then (pq_then (pq_block (pq_then pq_body))))))) ⟨hE, hB4_0, hB5_0, hB9_2, ov2_2, hys, k9_1, k11_4, trivial⟩ rfl (fun w hw => R_move q6) ?_
      refine H_take (i := 1) rfl (by kernel_rfl) (by kernel_rfl) (by kernel_rfl) rfl (pq_then (pq_then (pq_block (pq_then (pq_then (pq_block (pq_then pq_body))))))) ⟨hE, hB4_0, hB5_0, hB9_2, ov2_2, hys, k9_1, k11_4, trivial⟩ rfl (fun w hw => R_fieldAddr Tryz.runUnderlying34 rfl Tryz.sizeOf31 rfl) ?_
      refine H_take (i := 2) rfl (by kernel_rfl) (by kernel_rfl) (by kernel_rfl) rfl (pq_then (pq_then (pq_block (pq_then (pq_then (pq_block (pq_then pq_body))))))) ⟨hE, hB4_0, hB5_0, hB9_2, ov2_2, hys, k9_1, k11_4, trivial⟩ rfl (fun w hw => R_loadA (c := ((((y2_2).getD (i) Sg.zero)).vote).l) Tryz.isAgg31 Tryz.sizeOf31 hw.2.2.2.1 rfl rfl rfl) ?_
      refine H_take (i := 4) rfl (by kernel_rfl) (by kernel_rfl) (by kernel_rfl) rfl (pq_then (pq_then (pq_block (pq_then (pq_then (pq_block (pq_then pq_body))))))) ⟨hE, hB4_0, hB5_0, hB9_2, ov2_2, hys, k9_1, k11_4, trivial⟩ rfl (fun w hw => R_loadA (c := (((y2_2).getD (i) Sg.zero)).l) Tryz.isAgg34 Tryz.sizeOf34 hw.2.2.2.1 rfl rfl rfl) ?_
      refine H_op (i := 3) (by kernel_rfl) rfl rfl (D_call (R_callF Tryz.call27 rfl rfl) (c103 ((((y2_2).getD (i) Sg.zero)).vote) _) (fun w13_3 e13_3 => ?_))
      replace hE := hE.trans e13_3
      replace hM3_0 := hM3_0.ext e13_3
      replace hB4_0 := hB4_0.ext e13_3
      replace hB5_0 := hB5_0.ext e13_3
      replace hB9_2 := hB9_2.ext e13_3
      replace ov2_2 := ov2_2.ext e13_3
      replace hys := hys.fb (Fb.ext e13_3)
      replace k9_1 := k9_1.fb (Fb.ext e13_3)
      replace k11_4 := k11_4.fb (Fb.ext e13_3)
      refine ⟨⟨hE, hB4_0, hB5_0, hB9_2, ov2_2, hys, k9_1, k11_4, trivial⟩, ?_⟩
      have xov2_2 := own_neM ov2_2.1 hM3_0
      have h0 := hM3_0
      refine H_op (i := 5) (by kernel_rfl) rfl rfl (D_mapUp (s := ((y2_2).getD (i) Sg.zero)) rfl rfl rfl hM3_0 hva hlb (fun w13_5 k13_5 hM3_0 => ?_))
      have f13_5 := Fb.kp k13_5 (Nat.le_trans hlo lM3_0) (Mp.notB h0 rfl)
      replace hE := hE.kp k13_5 lM3_0
      replace hB4_0 := hB4_0.kp k13_5 nM3_0B4_0.symm
      replace hB5_0 := hB5_0.kp k13_5 nM3_0B5_0.symm
      replace hB9_2 := hB9_2.kp k13_5 nM3_0B9_2.symm
      replace ov2_2 := ov2_2.kp k13_5 xov2_2 f13_5
      replace hys := hys.fb f13_5
      replace k9_1 := k9_1.fb f13_5
      replace k11_4 := k11_4.fb f13_5
      refine ⟨⟨hE, hB4_0, hB5_0, hB9_2, ov2_2, hys, k9_1, k11_4, trivial⟩, ?_⟩
      refine H_done (by kernel_rfl) ?_
      refine T_tn ?_
      refine wp_exit ?_
      refine T_te ?_
      refine T_be ?_
      refine T_tn ?_
      refine W_region ?_
      refine L (D_v (R_addN (m := i) (j := 1) q24 rfl (by (try simp only [List.length_take, List.length_drop, List.length_append, List.length_cons, List.length_nil, List.length_replicate, List.length_set, Nm.b_len, be2_len]); omega)) ?_)
      refine L (D_v (R_move rfl) ?_)
      refine S_nil ?_
      refine T_tn ?_
      refine ⟨_, _, ?_, rfl, i + 1, _, _, _, rfl, q6, q7, q8, q22, q23, rfl, hE, hM3_0, hB4_0, hB5_0, ov2_2, hys, ?_, ?_, ?_, ?_⟩
      all_goals first | omega | exact hst2 | exact hfs | exact hev | (intro a ha; exact (List.mem_append.1 ha).elim (hfs a) (fun h1 => by rw [List.mem_singleton.1 h1]; exact hym)) | exact ev_set hev (hfs _ hlm.1) hym
    ·
      have hlb : lookB fs (y2_2.getD i Sg.zero).vote = true := by simpa using c2
      have hlm := lookG_mem hlb
      refine wp_skip ?_
      refine T_tn ?_
      refine wp_seq ?_
      refine W_region ?_
      refine L (D_v (R_loadA (c := ((lookG (fs) ((((y2_2).getD (i) Sg.zero)).vote))).l) Tryz.isAgg34 Tryz.sizeOf34 hB11_8 rfl rfl rfl) ?_)
      refine L (D_v (R_loadA (c := (((y2_2).getD (i) Sg.zero)).l) Tryz.isAgg34 Tryz.sizeOf34 hB9_2 rfl rfl rfl) ?_)
      have k13_2 : Ev.okf lo w11_9 (⟨(lookG (fs) ((((y2_2).getD (i) Sg.zero)).vote)), ((y2_2).getD (i) Sg.zero)⟩ : Ev) := ⟨k11_4, k9_1⟩
      refine L (D_v (R_buildS (vs := [(0, .agg ((lookG (fs) ((((y2_2).getD (i) Sg.zero)).vote))).l.toArray), (1, .agg (((y2_2).getD (i) Sg.zero)).l.toArray)]) (c := (⟨(lookG (fs) ((((y2_2).getD (i) Sg.zero)).vote)), ((y2_2).getD (i) Sg.zero)⟩ : Ev).l) Tryz.runUnderlying51 places55 Tryz.zeroValue51 (mapp2 rfl rfl) (fill55 _ _)) ?_)
      refine L (D_alloc (c := (Ev.zero).l) Tryz.zeroValue51 rfl (fun aB13_3 w13_3 e13_3 gB13_3 hB13_3 => ?_))
      have lB13_3 := Nat.le_trans hE.size gB13_3
      have nM3_0B13_3 := hM3_0.ne gB13_3
      have nB4_0B13_3 := hB4_0.ne gB13_3
      have nB5_0B13_3 := hB5_0.ne gB13_3
      have nB9_2B13_3 := hB9_2.ne gB13_3
      have nB11_8B13_3 := hB11_8.ne gB13_3
      replace hE := hE.trans e13_3
      replace hM3_0 := hM3_0.ext e13_3
      replace hB4_0 := hB4_0.ext e13_3
      replace hB5_0 := hB5_0.ext e13_3
      replace hB9_2 := hB9_2.ext e13_3
      replace hB11_8 := hB11_8.ext e13_3
      replace ov2_2 := ov2_2.ext e13_3
      replace hys := hys.fb (Fb.ext e13_3)
      replace k9_1 := k9_1.fb (Fb.ext e13_3)
      replace k11_4 := k11_4.fb (Fb.ext e13_3)
      replace k13_2 := k13_2.fb (Fb.ext e13_3)
      have xov2_2 := own_neB ov2_2.1 hB13_3 rfl
      have h0 := hB13_3
      refine L (D_storeA Tryz.sizeOf51 hB13_3 rfl rfl rfl rfl rfl (l' := ((⟨(lookG (fs) ((((y2_2).getD (i) Sg.zero)).vote)), ((y2_2).getD (i) Sg.zero)⟩ : Ev)).l) rfl (fun w13_4 k13_4 hB13_3 => ?_))
      have f13_4 := Fb.kp k13_4 (Nat.le_trans hlo lB13_3) (Blk.notB h0 rfl)
      replace hE := hE.kp k13_4 lB13_3
      replace hM3_0 := hM3_0.kp k13_4 nM3_0B13_3
      replace hB4_0 := hB4_0.kp k13_4 nB4_0B13_3
      replace hB5_0 := hB5_0.kp k13_4 nB5_0B13_3
      replace hB9_2 := hB9_2.kp k13_4 nB9_2B13_3
      replace hB11_8 := hB11_8.kp k13_4 nB11_8B13_3
      replace ov2_2 := ov2_2.kp k13_4 xov2_2 f13_4
      replace hys := hys.fb f13_4
      replace k9_1 := k9_1.fb f13_4
      replace k11_4 := k11_4.fb f13_4
      replace k13_2 := k13_2.fb f13_4
      refine S_nil ?_
      refine T_tn ?_
      refine wp_seq ?_
      refine W_draw mixed (by kernel_rfl) ?_
      refine Q_v (fun w hw => R_move rfl) ?_
      refine Q_v (fun w hw => R_ixE (i := ((((y2_2).getD (i) Sg.zero)).vote.signer).toNat) Tryz.runUnderlying57 Tryz.sizeOf4 q8 (Eq.trans rfl (congrArg i64 hsn)) hs10) ?_
      refine Q_v (fun w hw => R_ldBs (hB5_0.ext hw) rfl (by have := hst.2; omega)) ?_
      refine Q_v (fun w hw => R_not rfl) ?_
      refine Q_v (fun w hw => R_move rfl) ?_
      refine Q_g1 rfl rfl (fun hb w hw => R_fieldAddr Tryz.runUnderlying34 rfl Tryz.sizeOf31 rfl) ?_
      refine Q_g1 rfl rfl (fun hb w hw => R_loadA (c := (((lookG (fs) ((((y2_2).getD (i) Sg.zero)).vote))).vote).l) Tryz.isAgg31 Tryz.sizeOf31 (hB11_8.ext hw) (cgE hb) rfl rfl) ?_
      refine Q_g1 rfl rfl (fun hb w hw => R_move rfl) ?_
      refine Q_g1 rfl rfl (fun hb w hw => R_ixE (i := ((((y2_2).getD (i) Sg.zero)).vote.signer).toNat) Tryz.runUnderlying56 Tryz.sizeOf51 q7 (Eq.trans (cgE hb) (congrArg i64 hsn)) hs10) ?_
      refine Q_g1 rfl rfl (fun hb w hw => R_fieldAddr Tryz.runUnderlying51 rfl Tryz.sizeOf34 (cgE hb)) ?_
      refine Q_g1 rfl rfl (fun hb w hw => R_fieldAddr Tryz.runUnderlying34 rfl Tryz.sizeOf31 (cgE hb)) ?_
      refine Q_g1 rfl rfl (fun hb w hw => R_ldVe (hB4_0.ext hw) (cgE hb) (by have := hst.2; omega)) ?_
      refine Q_gc1 rfl rfl (fun hb w hw => R_callF Tryz.call28 (mapv2 (cgE hb) (cgE hb)) rfl) (fun hb w hw => c33 (((lookG (fs) ((((y2_2).getD (i) Sg.zero)).vote))).vote) (((es).getD ((((y2_2).getD (i) Sg.zero)).vote.signer).toNat Ev.zero).a.vote) _ ) ?_
      refine Q_v (fun w hw => R_pickO rfl rfl rfl) ?_
      refine Q_nil (fun w14_99 e14_99 => ?_)
      replace hE := hE.trans e14_99
      replace hM3_0 := hM3_0.ext e14_99
      replace hB4_0 := hB4_0.ext e14_99
      replace hB5_0 := hB5_0.ext e14_99
      replace hB11_8 := hB11_8.ext e14_99
      replace hB13_3 := hB13_3.ext e14_99
      replace ov2_2 := ov2_2.ext e14_99
      replace hys := hys.fb (Fb.ext e14_99)
      replace k9_1 := k9_1.fb (Fb.ext e14_99)
      replace k11_4 := k11_4.fb (Fb.ext e14_99)
      replace k13_2 := k13_2.fb (Fb.ext e14_99)
      refine T_tn ?_
      refine W_if rfl (fun c3 => ?_) (fun c3 => ?_)
      ·
        have hst2 := hst.yes lk hlb hs10 c3
        refine W_region ?_
        refine L (D_v (R_move rfl) ?_)
        refine L (D_v (R_move rfl) ?_)
        refine L (D_v (R_loadA (c := ((⟨(lookG (fs) ((((y2_2).getD (i) Sg.zero)).vote)), ((y2_2).getD (i) Sg.zero)⟩ : Ev)).l) Tryz.isAgg51 Tryz.sizeOf51 hB13_3 rfl rfl rfl) ?_)
        refine L (D_v (R_ixE (i := ((((y2_2).getD (i) Sg.zero)).vote.signer).toNat) Tryz.runUnderlying56 Tryz.sizeOf51 q7 (Eq.trans rfl (congrArg i64 hsn)) hs10) ?_)
        have xov2_2 := own_neB ov2_2.1 hB4_0 rfl
        have h0 := hB4_0
        refine L (D_stEv (e := (⟨(lookG (fs) ((((y2_2).getD (i) Sg.zero)).vote)), ((y2_2).getD (i) Sg.zero)⟩ : Ev)) hB4_0 rfl rfl (by have := hst.2; omega) (fun w15_4 k15_4 hB4_0 => ?_))
        have f15_4 := Fb.kp k15_4 (Nat.le_trans hlo lB4_0) (Blk.notB h0 rfl)
        replace hE := hE.kp k15_4 lB4_0
        replace hM3_0 := hM3_0.kp k15_4 nM3_0B4_0
        replace hB5_0 := hB5_0.kp k15_4 nB4_0B5_0.symm
        replace hB13_3 := hB13_3.kp k15_4 nB4_0B13_3.symm
        replace ov2_2 := ov2_2.kp k15_4 xov2_2 f15_4
        replace hys := hys.fb f15_4
        replace k9_1 := k9_1.fb f15_4
        replace k11_4 := k11_4.fb f15_4
        replace k13_2 := k13_2.fb f15_4
        refine L (D_v (R_ixE (i := ((((y2_2).getD (i) Sg.zero)).vote.signer).toNat) Tryz.runUnderlying57 Tryz.sizeOf4 q8 (Eq.trans rfl (congrArg i64 hsn)) hs10) ?_)
        have xov2_2 := own_neB ov2_2.1 hB5_0 rfl
        have h0 := hB5_0
        refine L (D_stBl (b := true) hB5_0 rfl rfl (by have := hst.2; omega) (fun w15_6 k15_6 hB5_0 => ?_))
        have f15_6 := Fb.kp k15_6 (Nat.le_trans hlo lB5_0) (Blk.notB h0 rfl)
        replace hE := hE.kp k15_6 lB5_0
        replace hM3_0 := hM3_0.kp k15_6 nM3_0B5_0
        replace hB4_0 := hB4_0.kp k15_6 nB4_0B5_0
        replace hB13_3 := hB13_3.kp k15_6 nB5_0B13_3.symm
        replace ov2_2 := ov2_2.kp k15_6 xov2_2 f15_6
        replace hys := hys.fb f15_6
        replace k9_1 := k9_1.fb f15_6
        replace k11_4 := k11_4.fb f15_6
        replace k13_2 := k13_2.fb f15_6
        refine S_nil ?_
        refine T_bn ?_
        refine T_tn ?_
        refine W_region ?_
        refine L (D_v (R_addN (m := i) (j := 1) q24 rfl (by (try simp only [List.length_take, List.length_drop, List.length_append, List.length_cons, List.length_nil, List.length_replicate, List.length_set, Nm.b_len, be2_len]); omega)) ?_)
        refine L (D_v (R_move rfl) ?_)
        refine S_nil ?_
        refine T_tn ?_
        refine ⟨_, _, ?_, rfl, i + 1, _, _, _, rfl, q6, q7, q8, q22, q23, rfl, hE, hM3_0, hB4_0, hB5_0, ov2_2, hys, ?_, ?_, ?_, ?_⟩
        all_goals first | omega | exact hst2 | exact hfs | exact hev | (intro a ha; exact (List.mem_append.1 ha).elim (hfs a) (fun h1 => by rw [List.mem_singleton.1 h1]; exact hym)) | exact ev_set hev (hfs _ hlm.1) hym
      ·
        have hst2 := hst.same lk hlb hs10 c3
        refine wp_skip ?_
        refine T_bn ?_
        refine T_tn ?_
        refine W_region ?_
        refine L (D_v (R_addN (m := i) (j := 1) q24 rfl (by (try simp only [List.length_take, List.length_drop, List.length_append, List.length_cons, List.length_nil, List.length_replicate, List.length_set, Nm.b_len, be2_len]); omega)) ?_)
        refine L (D_v (R_move rfl) ?_)
        refine S_nil ?_
        refine T_tn ?_
        refine ⟨_, _, ?_, rfl, i + 1, _, _, _, rfl, q6, q7, q8, q22, q23, rfl, hE, hM3_0, hB4_0, hB5_0, ov2_2, hys, ?_, ?_, ?_, ?_⟩
        all_goals first | omega | exact hst2 | exact hfs | exact hev | (intro a ha; exact (List.mem_append.1 ha).elim (hfs a) (fun h1 => by rw [List.mem_singleton.1 h1]; exact hym)) | exact ev_set hev (hfs _ hlm.1) hym
  ·
    obtain rfl : i = y2_2.length := by have h9 := of_decide_eq_false c1; omega
    rw [List.take_of_length_le (Nat.le_refl _), hyE] at hst
    refine wp_exit ?_
    refine T_te ?_
    refine T_te ?_
    refine T_be ?_
    refine T_tn ?_
    refine wp_seq ?_
    refine W_region ?_
    refine L (D_v (R_assign rfl) ?_)
    refine S_nil ?_
    refine T_tn ?_
    refine wp_seq ?_
    refine wp_seq ?_
    refine W_region ?_
    refine L (D_v (R_ldWhole Tryz.isAgg56 Tryz.sizeOf56 hB4_0 q7 (by rw [cE_len]; have := hst.2; omega)) ?_)
    refine L (D_v (R_move rfl) ?_)
    refine S_nil ?_
    refine T_tn ?_
    refine wp_block ?_
    refine W_loop (fun mz g W => ∃ (i : Nat) (os : List Ev) (r15 : Value), mz = 10 - i ∧ g 8 = .pointer (some ⟨aB5_0, 0, none⟩) ∧ g 15 = r15 ∧ g 69 = .agg (cE.cs es).toArray ∧ g 70 = i64 ((i : Nat) : Int) ∧ Ext w W ∧ Blk W aB5_0 ((bs).map Value.bool) 57 ∧ Ow cE lo w.heap.size W r15 os ∧ AllS lo W y2_2 ∧ i ≤ 10 ∧ os.length ≤ i ∧ os.map Ev.p = outE bs es i) ⟨0, [], _, rfl, q8, rfl, rfl, rfl, hE, hB5_0, (Ow.nil cE lo _ _), hys, (Nat.zero_le _), (by simp), rfl⟩ ?_
    rintro mz f11 w11l ⟨i, os, r15, hm, q8, q15, q69, q70, hE, hB5_0, or15, hys, hi, hol, ho⟩
    refine wp_seq ?_
    refine W_region ?_
    refine L (D_v (R_lssI q70 rfl) ?_)
    refine S_nil ?_
    refine T_tn ?_
    refine wp_seq ?_
    refine W_if rfl (fun c2 => ?_) (fun c2 => ?_)
    ·
      have lk : i < 10 := by have h9 := of_decide_eq_true c2; omega
      refine wp_skip ?_
      refine T_tn ?_
      refine wp_seq ?_
      refine wp_block ?_
      refine wp_seq ?_
      refine W_region ?_
      refine L (D_v (R_move q70) ?_)
      have k13_1 : Ev.okf lo _ ((es).getD i Ev.zero) := evok hys hev
      refine L (D_v (R_ixAgg (i := i) Tryz.runUnderlying56 q69 q70 (by have := hst.2; omega) (by omega)) ?_)
      refine L (D_alloc (c := (Ev.zero).l) Tryz.zeroValue51 rfl (fun aB13_2 w13_2 e13_2 gB13_2 hB13_2 => ?_))
      have lB13_2 := Nat.le_trans hE.size gB13_2
      have nB5_0B13_2 := hB5_0.ne gB13_2
      have yr15_B13_2 : Value.ownBlock r15 ≠ some aB13_2 := fun hk => absurd (own_lt or15.1 hk) (Nat.not_lt.2 gB13_2)
      replace hE := hE.trans e13_2
      replace hB5_0 := hB5_0.ext e13_2
      replace or15 := or15.ext e13_2
      replace hys := hys.fb (Fb.ext e13_2)
      replace k13_1 := k13_1.fb (Fb.ext e13_2)
      refine L (D_v (R_assign rfl) ?_)
      have xor15 := yr15_B13_2
      have h0 := hB13_2
      refine L (D_storeA Tryz.sizeOf51 hB13_2 rfl rfl rfl rfl rfl (l' := (((es).getD i Ev.zero)).l) rfl (fun w13_4 k13_4 hB13_2 => ?_))
      have f13_4 := Fb.kp k13_4 (Nat.le_trans hlo lB13_2) (Blk.notB h0 rfl)
      replace hE := hE.kp k13_4 lB13_2
      replace hB5_0 := hB5_0.kp k13_4 nB5_0B13_2
      replace or15 := or15.kp k13_4 xor15 f13_4
      replace hys := hys.fb f13_4
      replace k13_1 := k13_1.fb f13_4
      refine S_nil ?_
      refine T_tn ?_
      refine wp_seq ?_
      refine W_region ?_
      refine L (D_v (R_move rfl) ?_)
      refine L (D_v (R_ixE (i := i) Tryz.runUnderlying57 Tryz.sizeOf4 q8 rfl (by omega)) ?_)
      refine L (D_v (R_ldBs hB5_0 rfl (by have := hst.2; omega)) ?_)
      refine S_nil ?_
      refine T_tn ?_
      refine W_if rfl (fun c3 => ?_) (fun c3 => ?_)
      ·
        have hout := outE_y (bs := bs) (es := es) (i := i) (by have := hst.2; omega) (by have := hst.2; omega) c3
        have hem := ev_sig hyv hev (i := i)
        refine W_held (fun W => Ext w W ∧ Blk W aB5_0 ((bs).map Value.bool) 57 ∧ Blk W aB13_2 (((es).getD i Ev.zero)).l 51 ∧ AllS lo W y2_2 ∧ Ev.okf lo W ((es).getD i Ev.zero) ∧ True) mixed (fun w15_99 e15_99 => ?_)
        replace hE := hE.trans e15_99
        replace hB5_0 := hB5_0.ext e15_99
        replace hB13_2 := hB13_2.ext e15_99
        replace or15 := or15.ext e15_99
        replace hys := hys.fb (Fb.ext e15_99)
        replace k13_1 := k13_1.fb (Fb.ext e15_99)
        refine H_take (i := 0) rfl (by kernel_rfl) (by kernel_rfl) (by kernel_rfl) rfl (pq_block (pq_then (pq_then (pq_block (pq_then pq_body))))) ⟨hE, hB5_0, hB13_2, hys, k13_1, trivial⟩ rfl (fun w hw => R_move q15) ?_
        refine H_take (i := 1) rfl (by kernel_rfl) (by kernel_rfl) (by kernel_rfl) rfl (pq_block (pq_then (pq_then (pq_block (pq_then pq_body))))) ⟨hE, hB5_0, hB13_2, hys, k13_1, trivial⟩ rfl (fun w hw => R_fieldAddr Tryz.runUnderlying51 rfl Tryz.sizeOf34 rfl) ?_
        refine H_take (i := 2) rfl (by kernel_rfl) (by kernel_rfl) (by kernel_rfl) rfl (pq_block (pq_then (pq_then (pq_block (pq_then pq_body))))) ⟨hE, hB5_0, hB13_2, hys, k13_1, trivial⟩ rfl (fun w hw => R_loadA (c := ((((es).getD i Ev.zero)).a).l) Tryz.isAgg34 Tryz.sizeOf34 hw.2.2.1 rfl rfl rfl) ?_
        refine H_take (i := 4) rfl (by kernel_rfl) (by kernel_rfl) (by kernel_rfl) rfl (pq_block (pq_then (pq_then (pq_block (pq_then pq_body))))) ⟨hE, hB5_0, hB13_2, hys, k13_1, trivial⟩ rfl (fun w hw => R_fieldAddr Tryz.runUnderlying51 rfl Tryz.sizeOf34 rfl) ?_
        refine H_take (i := 5) rfl (by kernel_rfl) (by kernel_rfl) (by kernel_rfl) rfl (pq_block (pq_then (pq_then (pq_block (pq_then pq_body))))) ⟨hE, hB5_0, hB13_2, hys, k13_1, trivial⟩ rfl (fun w hw => R_loadA (c := ((((es).getD i Ev.zero)).b).l) Tryz.isAgg34 Tryz.sizeOf34 hw.2.2.1 rfl rfl rfl) ?_
        refine H_op (i := 3) (by kernel_rfl) rfl rfl (D_callE (R_callF Tryz.call29 rfl rfl) (c104 ((((es).getD i Ev.zero)).a) _ ((k13_1.1).up (Nat.le_trans hlo hE.size)) hem.1) (fun v15_3 w15_3 e15_3 p15_3 => ?_))
        obtain ⟨x15_3, rfl, p15_3a, k15_3⟩ := p15_3
        replace hE := hE.trans e15_3
        replace hB5_0 := hB5_0.ext e15_3
        replace hB13_2 := hB13_2.ext e15_3
        replace or15 := or15.ext e15_3
        replace hys := hys.fb (Fb.ext e15_3)
        replace k13_1 := k13_1.fb (Fb.ext e15_3)
        refine ⟨⟨hE, hB5_0, hB13_2, hys, k13_1, trivial⟩, ?_⟩
        refine H_op (i := 6) (by kernel_rfl) rfl rfl (D_callE (R_callF Tryz.call29 rfl rfl) (c104 ((((es).getD i Ev.zero)).b) _ ((k13_1.2).up (Nat.le_trans hlo hE.size)) hem.2) (fun v15_6 w15_6 e15_6 p15_6 => ?_))
        obtain ⟨x15_6, rfl, p15_6a, k15_6⟩ := p15_6
        replace hE := hE.trans e15_6
        replace hB5_0 := hB5_0.ext e15_6
        replace hB13_2 := hB13_2.ext e15_6
        replace or15 := or15.ext e15_6
        replace hys := hys.fb (Fb.ext e15_6)
        replace k13_1 := k13_1.fb (Fb.ext e15_6)
        replace k15_3 := k15_3.fb (Fb.ext e15_6)
        refine ⟨⟨hE, hB5_0, hB13_2, hys, k13_1, trivial⟩, ?_⟩
        have k15_7 : Ev.okf lo w15_6 (⟨x15_3, x15_6⟩ : Ev) := ⟨(k15_3.up (Nat.zero_le _)), (k15_6.up (Nat.zero_le _))⟩
        refine H_op (i := 7) (by kernel_rfl) rfl rfl (D_v (R_buildS (vs := [(0, .agg (x15_3).l.toArray), (1, .agg (x15_6).l.toArray)]) (c := (⟨x15_3, x15_6⟩ : Ev).l) Tryz.runUnderlying51 places55 Tryz.zeroValue51 (mapp2 rfl rfl) (fill55 _ _)) ⟨⟨hE, hB5_0, hB13_2, hys, k13_1, trivial⟩, ?_⟩)
        refine H_op (i := 8) (by kernel_rfl) rfl rfl (D_buildL1 (C := cE) (lo := lo) (y := (⟨x15_3, x15_6⟩ : Ev)) Tryz.underlying36 Tryz.sizeOf51 Tryz.zeroValue51 (mapp1 rfl) (by decide) k15_7 (fun v15_8 w15_8 o15_8 e15_8 => ?_))
        have yv15_8_B13_2 : Value.ownBlock v15_8 ≠ some aB13_2 := fun hk => absurd (own_ge o15_8.1 hk) (Nat.not_le.2 hB13_2.lt)
        have zr15_v15_8 := own_apart or15.1 o15_8.1
        have zv15_8_r15 := fun k hk hk2 => zr15_v15_8 k hk2 hk
        replace o15_8 := o15_8.low hE.size
        replace hE := hE.trans e15_8
        replace hB5_0 := hB5_0.ext e15_8
        replace hB13_2 := hB13_2.ext e15_8
        replace or15 := or15.ext e15_8
        replace hys := hys.fb (Fb.ext e15_8)
        replace k13_1 := k13_1.fb (Fb.ext e15_8)
        replace k15_3 := k15_3.fb (Fb.ext e15_8)
        replace k15_6 := k15_6.fb (Fb.ext e15_8)
        replace k15_7 := k15_7.fb (Fb.ext e15_8)
        refine ⟨⟨hE, hB5_0, hB13_2, hys, k13_1, trivial⟩, ?_⟩
        refine H_op (i := 9) (by kernel_rfl) rfl rfl (D_appendL elt55 Tryz.underlying36 rfl rfl or15 hlo o15_8.ls (by (try simp only [List.length_take, List.length_drop, List.length_append, List.length_cons, List.length_nil, List.length_replicate, List.length_set, Nm.b_len, be2_len]); omega) (by (try simp only [List.length_take, List.length_drop, List.length_append, List.length_cons, List.length_nil, List.length_replicate, List.length_set, Nm.b_len, be2_len]); omega) hE.size (fun v15_9 w15_9 o15_9 g15_9 f15_9 sv15_9 => ?_))
        have yv15_9_B13_2 : Value.ownBlock v15_9 ≠ some aB13_2 := fun hk => (sv15_9 _ hk).elim yr15_B13_2 (fun h => absurd h (Nat.not_le.2 hB13_2.lt))
        have zv15_8_v15_9 : ∀ k, Value.ownBlock v15_8 = some k → Value.ownBlock v15_9 ≠ some k := fun k hk2 hk => (sv15_9 _ hk).elim (fun h => zv15_8_r15 k hk2 h) (fun h => absurd h (Nat.not_le.2 (own_lt o15_8.1 hk2)))
        have zv15_9_v15_8 := fun k hk hk2 => zv15_8_v15_9 k hk2 hk
        replace hE := hE.grown g15_9 (fun k hk => own_ge or15.1 hk)
        replace hB5_0 := hB5_0.grown g15_9 (own_neB or15.1 hB5_0 rfl)
        replace hB13_2 := hB13_2.grown g15_9 (yr15_B13_2)
        replace o15_8 := o15_8.grown g15_9 (zv15_8_r15) f15_9
        replace hys := hys.fb f15_9
        replace k13_1 := k13_1.fb f15_9
        replace k15_3 := k15_3.fb (Fb.grown g15_9 (fun k hk => ⟨Nat.zero_le _, (own_notB or15.1 rfl k hk).2⟩))
        replace k15_6 := k15_6.fb (Fb.grown g15_9 (fun k hk => ⟨Nat.zero_le _, (own_notB or15.1 rfl k hk).2⟩))
        replace k15_7 := k15_7.fb f15_9
        refine ⟨⟨hE, hB5_0, hB13_2, hys, k13_1, trivial⟩, ?_⟩
        refine H_take (i := 10) rfl (by kernel_rfl) (by kernel_rfl) (by kernel_rfl) rfl (pq_block (pq_then (pq_then (pq_block (pq_then pq_body))))) ⟨hE, hB5_0, hB13_2, hys, k13_1, trivial⟩ rfl (fun w hw => R_assign rfl) ?_
        refine H_done (by kernel_rfl) ?_
        refine T_bn ?_
        refine T_tn ?_
        refine W_region ?_
        refine L (D_v (R_addN (m := i) (j := 1) q70 rfl (by (try simp only [List.length_take, List.length_drop, List.length_append, List.length_cons, List.length_nil, List.length_replicate, List.length_set, Nm.b_len, be2_len]); omega)) ?_)
        refine L (D_v (R_move rfl) ?_)
        refine S_nil ?_
        refine T_tn ?_
        refine ⟨_, _, ?_, rfl, i + 1, _, _, rfl, q8, rfl, q69, rfl, hE, hB5_0, o15_9, hys, ?_, ?_, ?_⟩
        all_goals first | omega | (rw [hout]; exact ho) | (simp only [List.length_append, List.length_cons, List.length_nil]; omega) | (rw [hout, List.map_append, ho]; exact congrArg (fun z => outE bs es i ++ [z]) (Prod.ext p15_3a p15_6a))
      ·
        have hout := outE_n (bs := bs) (es := es) (i := i) (by have := hst.2; omega) (by have := hst.2; omega) c3
        refine wp_skip ?_
        refine T_bn ?_
        refine T_tn ?_
        refine W_region ?_
        refine L (D_v (R_addN (m := i) (j := 1) q70 rfl (by (try simp only [List.length_take, List.length_drop, List.length_append, List.length_cons, List.length_nil, List.length_replicate, List.length_set, Nm.b_len, be2_len]); omega)) ?_)
        refine L (D_v (R_move rfl) ?_)
        refine S_nil ?_
        refine T_tn ?_
        refine ⟨_, _, ?_, rfl, i + 1, _, _, rfl, q8, q15, q69, rfl, hE, hB5_0, or15, hys, ?_, ?_, ?_⟩
        all_goals first | omega | (rw [hout]; exact ho)
    ·
      obtain rfl : i = 10 := by have h9 := of_decide_eq_false c2; omega
      refine wp_exit ?_
      refine T_te ?_
      refine T_te ?_
      refine T_be ?_
      refine T_tn ?_
      refine wp_seq ?_
      refine W_region ?_
      refine L (D_v (R_move q15) ?_)
      refine L (D_v (R_assign rfl) ?_)
      refine S_nil ?_
      refine T_tn ?_
      refine wp_ret ?_
      refine ret1 (v := r15) rfl rfl ⟨_, rfl, hE, ?_⟩
      exact ⟨_, or15, ho.trans (outE_all hst)⟩
set_option maxRecDepth 4000 in
set_option maxHeartbeats 2000000 in
theorem c71 (vk : Value) (keys : List Nm) (lo : Nat) (v : Value) (xs : List Sg) (w : World) (hk : Ls cN w.heap.size w vk keys) (hlo : lo ≤ w.heap.size) (hn : xs.length ≤ 1000000) (h : Ls cS lo w v xs) : Calls Tryz.prog 13 [vk, v].toArray w (Ret w (i64 (gk keys xs))) := by
  refine enter Tryz.func13 Tryz.ntmps13 rfl rfl ?_
  have hE := Ext.refl w
  refine wp_seq ?_
  refine W_region ?_
  refine L (D_v (R_assign rfl) ?_)
  refine S_nil ?_
  refine T_tn ?_
  refine wp_seq ?_
  refine W_region ?_
  refine L (D_v (R_assign rfl) ?_)
  refine S_nil ?_
  refine T_tn ?_
  refine wp_seq ?_
  refine wp_seq ?_
  refine W_region ?_
  refine L (D_v (R_move rfl) ?_)
  refine L (D_v (R_move rfl) ?_)
  refine L (D_callE (R_callF Tryz.call11 rfl rfl) (c73 vk (keys) lo v (xs) _ ((hk.ext hE).lev fun _ _ _ => trivial) (Nat.le_trans hlo hE.size) (by (try simp only [List.length_take, List.length_drop, List.length_append, List.length_cons, List.length_nil, List.length_replicate, List.length_set, Nm.b_len, be2_len]); omega) (h.ext hE)) (fun v3_2 w3_2 e3_2 p3_2 => ?_))
  obtain ⟨e3_2a, o3_2, pe3_2⟩ := p3_2
  replace o3_2 := o3_2.low hE.size
  replace hE := hE.trans e3_2
  have hel := evs_el pe3_2
  refine L (D_v (R_len Tryz.underlying36 rfl o3_2.ls.1) ?_)
  refine L (D_v (R_move rfl) ?_)
  refine S_nil ?_
  refine T_tn ?_
  refine wp_block ?_
  refine W_loop (fun mz g W => ∃ (i : Nat) (gu : Int), mz = e3_2a.length - i ∧ g 5 = i64 gu ∧ g 10 = v3_2 ∧ g 11 = i64 (((e3_2a).length : Nat) : Int) ∧ g 12 = i64 ((i : Nat) : Int) ∧ Ext w W ∧ Ow cE lo w.heap.size W v3_2 e3_2a ∧ i ≤ e3_2a.length ∧ gu = maskP ((e3_2a.take i).map Ev.p) 0) ⟨0, 0, rfl, rfl, rfl, rfl, rfl, hE, o3_2, (Nat.zero_le _), rfl⟩ ?_
  rintro mz f4 w4l ⟨i, gu, hm, q5, q10, q11, q12, hE, ov3_2, hi, hg⟩
  refine wp_seq ?_
  refine W_region ?_
  refine L (D_v (R_lssI q12 q11) ?_)
  refine S_nil ?_
  refine T_tn ?_
  refine wp_seq ?_
  refine W_if rfl (fun c1 => ?_) (fun c1 => ?_)
  ·
    have lk : i < e3_2a.length := by have h9 := of_decide_eq_true c1; omega
    have hsg := evs_sg pe3_2 lk
    refine wp_skip ?_
    refine T_tn ?_
    refine wp_seq ?_
    refine wp_block ?_
    refine wp_seq ?_
    refine W_region ?_
    refine L (D_v (R_elAddr (i := i) Tryz.underlying36 Tryz.sizeOf51 q10 q12 ov3_2.ls.1 (by (try simp only [List.length_take, List.length_drop, List.length_append, List.length_cons, List.length_nil, List.length_replicate, List.length_set, Nm.b_len, be2_len]); omega)) ?_)
    have k6_1 := (ov3_2.ls).get (i := i) (getD_some (d := Ev.zero) (by (try simp only [List.length_take, List.length_drop, List.length_append, List.length_cons, List.length_nil, List.length_replicate, List.length_set, Nm.b_len, be2_len]); omega))
    refine L (D_v (R_ldL (C := cE) (i := i) (y := ((e3_2a).getD (i) Ev.zero)) Tryz.isAgg51 Tryz.sizeOf51 rfl ov3_2.ls (getD_some (d := Ev.zero) (by (try simp only [List.length_take, List.length_drop, List.length_append, List.length_cons, List.length_nil, List.length_replicate, List.length_set, Nm.b_len, be2_len]); omega))) ?_)
    refine L (D_alloc (c := (Ev.zero).l) Tryz.zeroValue51 rfl (fun aB6_2 w6_2 e6_2 gB6_2 hB6_2 => ?_))
    have lB6_2 := Nat.le_trans hE.size gB6_2
    have yv3_2_B6_2 : Value.ownBlock v3_2 ≠ some aB6_2 := fun hk => absurd (own_lt ov3_2.1 hk) (Nat.not_lt.2 gB6_2)
    replace hE := hE.trans e6_2
    replace ov3_2 := ov3_2.ext e6_2
    replace k6_1 := k6_1.fb (Fb.ext e6_2)
    have xov3_2 := yv3_2_B6_2
    have h0 := hB6_2
    refine L (D_storeA Tryz.sizeOf51 hB6_2 rfl rfl rfl rfl rfl (l' := (((e3_2a).getD (i) Ev.zero)).l) rfl (fun w6_3 k6_3 hB6_2 => ?_))
    have f6_3 := Fb.kp k6_3 (Nat.le_trans hlo lB6_2) (Blk.notB h0 rfl)
    replace hE := hE.kp k6_3 lB6_2
    replace ov3_2 := ov3_2.kp k6_3 xov3_2 f6_3
    replace k6_1 := k6_1.fb f6_3
    refine S_nil ?_
    refine T_tn ?_
    refine W_region ?_
    refine L (D_v (R_move q5) ?_)
    refine L (D_v (R_fieldAddr Tryz.runUnderlying51 rfl Tryz.sizeOf34 rfl) ?_)
    refine L (D_v (R_fieldAddr Tryz.runUnderlying34 rfl Tryz.sizeOf31 rfl) ?_)
    refine L (D_v (R_fieldAddr Tryz.runUnderlying31 rfl Tryz.sizeOf3 rfl) ?_)
    refine L (D_v (R_load Tryz.isAgg3 hB6_2 rfl rfl) ?_)
    refine L (D_v (R_bit (s := ((((e3_2a).getD (i) Ev.zero)).a).vote.signer) rfl rfl hsg) ?_)
    refine L (D_v (R_orI rfl rfl) ?_)
    refine L (D_v (R_assign rfl) ?_)
    refine S_nil ?_
    refine T_bn ?_
    refine T_tn ?_
    refine W_region ?_
    refine L (D_v (R_addN (m := i) (j := 1) q12 rfl (by (try simp only [List.length_take, List.length_drop, List.length_append, List.length_cons, List.length_nil, List.length_replicate, List.length_set, Nm.b_len, be2_len]); omega)) ?_)
    refine L (D_v (R_move rfl) ?_)
    refine S_nil ?_
    refine T_tn ?_
    refine ⟨_, _, ?_, rfl, i + 1, _, rfl, rfl, q10, q11, rfl, hE, ov3_2, ?_, ?_⟩
    all_goals first | omega | exact mask_step hg lk
  ·
    obtain rfl : i = e3_2a.length := by have h9 := of_decide_eq_false c1; omega
    refine wp_exit ?_
    refine T_te ?_
    refine T_te ?_
    refine T_be ?_
    refine T_tn ?_
    refine wp_seq ?_
    refine W_region ?_
    refine L (D_v (R_move q5) ?_)
    refine L (D_v (R_assign rfl) ?_)
    refine S_nil ?_
    refine T_tn ?_
    refine wp_ret ?_
    refine ret1 (v := .int _ _) rfl rfl ⟨?_, hE⟩
    rw [hg, mask_all pe3_2]; rfl
end Go.Proofs.YteeopgpgbdhmhaaGreat
namespace Go.Proofs.YteeopgpgbdhmhaaGreat
open Go.RowKit Go.Lib
set_option linter.unusedVariables false
theorem sameS_iff {a b : Pv} : sameS a b = true ↔ a = b := by
  unfold sameS
  simp only [Bool.and_eq_true, decide_eq_true_eq]
  exact ⟨fun h => Prod.ext h.1 h.2, fun h => by rw [h]; exact ⟨rfl, rfl⟩⟩
end Go.Proofs.YteeopgpgbdhmhaaGreat
namespace Go.Proofs.YteeopgpgbdhmhaaGreat
open Go.RowKit Go.Lib
set_option linter.unusedVariables false
theorem ba_list (a : List UInt8) : (ByteArray.mk a.toArray).toList = a := by simp
theorem bl_ltB : ∀ a b : List UInt8, Op.bytesLess a b = ltB a b
  | [], [] => rfl
  | _ :: _, [] => rfl
  | [], _ :: _ => rfl
  | a :: x, b :: y => by
    rw [Bool.eq_iff_iff, ltB_cons]
    unfold Op.bytesLess
    rw [bl_ltB x y]
    simp
theorem sLt_ltB (a b : List UInt8) : sLt a b = ltB a b := by unfold sLt; rw [ba_list, ba_list, bl_ltB]
theorem sLe_ltB (a b : List UInt8) : sLe a b = !ltB b a := by
  unfold sLe
  rw [sLt_ltB, ba_list, ba_list]
  by_cases h : a = b
  · subst h; simp [ltB_irr]
  · rcases ltB_tot a b h with h1 | h1
    · rw [h1, sto_B.asym h1]; simp
    · rw [h1, sto_B.asym h1]; simp [h]
end Go.Proofs.YteeopgpgbdhmhaaGreat
namespace Go.Proofs.YteeopgpgbdhmhaaGreat
open Go.ChangeShapes Go.WideShapes Go.ChangeAt Go.RowKit Go.Lib
set_option linter.unusedVariables false
set_option maxRecDepth 20000
set_option linter.constructorNameAsVariable false
section
variable {H : Type} {enc : TypeId × Value → H} {w : World} {base : Nat} {sp : Nat → Bool} {held : Bool}
end
theorem not_or2 {a b v : Bool} (h : (!a || !b) = v) : (a && b) = !v := by subst h; cases a <;> cases b <;> rfl
def pairsS (xs ys : List Ev) : Bool := decide (xs.map Ev.p = ys.map Ev.p)
theorem pairsS_len {xs ys : List Ev} (h : xs.length ≠ ys.length) : pairsS xs ys = false := by
  unfold pairsS
  refine decide_eq_false fun e => h ?_
  have := congrArg List.length e
  simpa using this
theorem pairsS_at {xs ys : List Ev} {i : Nat} (hx : i < xs.length) (hy : i < ys.length) (h : (sameS (xs.getD i Ev.zero).a.p (ys.getD i Ev.zero).a.p && sameS (xs.getD i Ev.zero).b.p (ys.getD i Ev.zero).b.p) = false) : pairsS xs ys = false := by
  unfold pairsS
  refine decide_eq_false fun e => ?_
  have h1 := congrArg (fun l => l[i]?) e
  simp only [List.getElem?_map, getD_some (d := Ev.zero) hx, getD_some (d := Ev.zero) hy, Option.map_some, Option.some.injEq] at h1
  have h2 : (xs.getD i Ev.zero).a.p = (ys.getD i Ev.zero).a.p := congrArg Prod.fst h1
  have h3 : (xs.getD i Ev.zero).b.p = (ys.getD i Ev.zero).b.p := congrArg Prod.snd h1
  rw [h2, h3, sameS_refl, sameS_refl] at h; cases h
theorem pairsS_next {xs ys : List Ev} {i : Nat} (ha : (xs.take i).map Ev.p = (ys.take i).map Ev.p) (hx : i < xs.length) (hy : i < ys.length) (h : (sameS (xs.getD i Ev.zero).a.p (ys.getD i Ev.zero).a.p && sameS (xs.getD i Ev.zero).b.p (ys.getD i Ev.zero).b.p) = true) : (xs.take (i + 1)).map Ev.p = (ys.take (i + 1)).map Ev.p := by
  rw [Bool.and_eq_true] at h
  have h1 : (xs.getD i Ev.zero).p = (ys.getD i Ev.zero).p := Prod.ext (sameS_iff.1 h.1) (sameS_iff.1 h.2)
  rw [List.take_add_one, List.take_add_one, List.map_append, List.map_append, ha, getD_some (d := Ev.zero) hx, getD_some (d := Ev.zero) hy]
  simp only [Option.toList_some, List.map_cons, List.map_nil, h1]
theorem pairsS_all {xs ys : List Ev} (hl : xs.length = ys.length) (ha : (xs.take xs.length).map Ev.p = (ys.take xs.length).map Ev.p) : pairsS xs ys = true := by
  unfold pairsS
  refine decide_eq_true ?_
  rw [List.take_of_length_le (Nat.le_refl _), List.take_of_length_le (by omega)] at ha
  exact ha
theorem canP_nil : canP [] = [] := (canP_eq IsCan.nil).symm
theorem gk_nil : gk [] [] = 0 := by
  unfold gk evs
  show guiltyP (canP []) = 0
  rw [canP_nil]; rfl
end Go.Proofs.YteeopgpgbdhmhaaGreat
namespace Go.Proofs.YteeopgpgbdhmhaaGreat
open Go.RowKit
set_option linter.unusedVariables false
set_option linter.unusedSimpArgs false
attribute [local irreducible] wpList wpO H wpQuiet wpStill Code.wp Exit.then Exit.inBlock bodyPost Code.rounds Calls valid sameKey conflict lessV hless num between
set_option maxRecDepth 4000 in
set_option maxHeartbeats 1000000 in
theorem c77 (x y : Sg) (w : World) (hx : x.okf w.heap.size w) (hy : y.okf w.heap.size w) : Calls Tryz.prog 9 [x.v, y.v].toArray w (Ret w (.bool (sameS x.p y.p))) := by
  refine enter Tryz.func9 Tryz.ntmps9 rfl rfl ?_
  have hE := Ext.refl w
  refine wp_seq ?_
  refine W_region ?_
  refine L (D_box (c := (x).l) (rfl) (fun aB1_0 w1_0 e1_0 gB1_0 hB1_0 => ?_))
  have lB1_0 := Nat.le_trans hE.size gB1_0
  replace hE := hE.trans e1_0
  refine L (D_box (c := (y).l) (rfl) (fun aB1_1 w1_1 e1_1 gB1_1 hB1_1 => ?_))
  have lB1_1 := Nat.le_trans hE.size gB1_1
  have nB1_0B1_1 := hB1_0.ne gB1_1
  replace hE := hE.trans e1_1
  replace hB1_0 := hB1_0.ext e1_1
  refine L (D_v (R_assign rfl) ?_)
  refine S_nil ?_
  refine T_tn ?_
  refine wp_seq ?_
  refine W_region ?_
  refine L (D_v (R_fieldAddr Tryz.runUnderlying34 rfl Tryz.sizeOf31 rfl) ?_)
  refine L (D_v (R_loadA (c := ((x).vote).l) Tryz.isAgg31 Tryz.sizeOf31 hB1_0 rfl rfl rfl) ?_)
  refine L (D_v (R_fieldAddr Tryz.runUnderlying34 rfl Tryz.sizeOf31 rfl) ?_)
  refine L (D_v (R_loadA (c := ((y).vote).l) Tryz.isAgg31 Tryz.sizeOf31 hB1_1 rfl rfl rfl) ?_)
  refine L (D_v (R_eqlA Tryz.eqGuardType31 (eq26 ((x).vote) ((y).vote) _) rfl rfl) ?_)
  refine L (D_v (R_move rfl) ?_)
  refine L (D_g1 rfl rfl (fun hb => R_fieldAddr Tryz.runUnderlying34 rfl Tryz.sizeOf32 rfl) ?_)
  refine L (D_g1 rfl rfl (fun hb => R_load Tryz.isAgg32 hB1_0 (cgE hb) rfl) ?_)
  refine L (D_g1 rfl rfl (fun hb => R_str (b := (x).sig) (cgE hb) (hx.fb (Fb.ext hE)).bs) ?_)
  refine L (D_g1 rfl rfl (fun hb => R_fieldAddr Tryz.runUnderlying34 rfl Tryz.sizeOf32 rfl) ?_)
  refine L (D_g1 rfl rfl (fun hb => R_load Tryz.isAgg32 hB1_1 (cgE hb) rfl) ?_)
  refine L (D_g1 rfl rfl (fun hb => R_str (b := (y).sig) (cgE hb) (hy.fb (Fb.ext hE)).bs) ?_)
  refine L (D_g1 rfl rfl (fun hb => R_eqlStr (a := (x).sig) (b := (y).sig) (cgE hb) (cgE hb)) ?_)
  refine L (D_v (R_pickA rfl rfl rfl) ?_)
  refine L (D_v (R_assign rfl) ?_)
  refine S_nil ?_
  refine T_tn ?_
  refine wp_ret ?_
  refine ret1 (v := .bool _) rfl rfl ⟨?_, hE⟩
  rfl
set_option maxRecDepth 4000 in
set_option maxHeartbeats 1000000 in
theorem c70 (v : Value) (xs : List Sg) (w : World) (h : Ls cS w.heap.size w v xs) : Calls Tryz.prog 6 [v].toArray w (Ret w (cut60 v xs.length)) := by
  refine enter Tryz.func6 Tryz.ntmps6 rfl rfl ?_
  have hE := Ext.refl w
  refine wp_seq ?_
  refine W_region ?_
  refine L (D_v (R_assign rfl) ?_)
  refine S_nil ?_
  refine T_tn ?_
  refine wp_seq ?_
  refine wp_seq ?_
  refine W_region ?_
  refine L (D_v (R_move rfl) ?_)
  refine L (D_v (R_len Tryz.underlying23 rfl (h.ext hE).1) ?_)
  refine L (D_v (R_gtrI rfl rfl) ?_)
  refine S_nil ?_
  refine T_tn ?_
  refine W_if rfl (fun c1 => ?_) (fun c1 => ?_)
  ·
    have lk : 60 < xs.length := by simp at c1; omega
    refine wp_seq ?_
    refine W_region ?_
    refine L (D_v (R_move rfl) ?_)
    refine L (D_v (R_sliceHi (j := 60) Tryz.underlying23 Tryz.sizeOf34 rfl rfl (h.ext hE).1 (by (try simp only [List.length_take, List.length_drop, List.length_append, List.length_cons, List.length_nil, List.length_replicate, List.length_set, Nm.b_len, be2_len]); omega)) ?_)
    refine L (D_v (R_assign rfl) ?_)
    refine S_nil ?_
    refine T_tn ?_
    refine wp_ret ?_
    refine T_tr ?_
    refine ret1 (v := _) rfl rfl ⟨?_, hE⟩
    unfold cut60; rw [if_pos lk]; rfl
  ·
    have lk : ¬ 60 < xs.length := by simp at c1; omega
    refine wp_skip ?_
    refine T_tn ?_
    refine wp_seq ?_
    refine W_region ?_
    refine L (D_v (R_move rfl) ?_)
    refine L (D_v (R_assign rfl) ?_)
    refine S_nil ?_
    refine T_tn ?_
    refine wp_ret ?_
    refine ret1 (v := _) rfl rfl ⟨?_, hE⟩
    unfold cut60; rw [if_neg lk]; rfl
set_option maxRecDepth 4000 in
set_option maxHeartbeats 1000000 in
theorem c72 (v u : Value) (xs ys : List Ev) (w : World) (hn : xs.length ≤ 1000000) (h : Ls cE w.heap.size w v xs) (hy : Ls cE w.heap.size w u ys) : Calls Tryz.prog 10 [v, u].toArray w (Ret w (.bool (pairsS xs ys))) := by
  refine enter Tryz.func10 Tryz.ntmps10 rfl rfl ?_
  have hE := Ext.refl w
  refine wp_seq ?_
  refine W_region ?_
  refine L (D_v (R_assign rfl) ?_)
  refine S_nil ?_
  refine T_tn ?_
  refine wp_seq ?_
  refine wp_seq ?_
  refine W_region ?_
  refine L (D_v (R_move rfl) ?_)
  refine L (D_v (R_len Tryz.underlying36 rfl (h.ext hE).1) ?_)
  refine L (D_v (R_move rfl) ?_)
  refine L (D_v (R_len Tryz.underlying36 rfl (hy.ext hE).1) ?_)
  refine L (D_v (R_neqI rfl rfl) ?_)
  refine S_nil ?_
  refine T_tn ?_
  refine W_if rfl (fun c1 => ?_) (fun c1 => ?_)
  ·
    have hne : xs.length ≠ ys.length := by simp at c1; omega
    refine wp_seq ?_
    refine W_region ?_
    refine L (D_v (R_assign rfl) ?_)
    refine S_nil ?_
    refine T_tn ?_
    refine wp_ret ?_
    refine T_tr ?_
    refine ret1 (v := .bool _) rfl rfl ⟨?_, hE⟩
    rw [pairsS_len hne]
  ·
    have hln : xs.length = ys.length := by simp at c1; omega
    refine wp_skip ?_
    refine T_tn ?_
    refine wp_seq ?_
    refine wp_seq ?_
    refine W_region ?_
    refine L (D_v (R_assign rfl) ?_)
    refine S_nil ?_
    refine T_tn ?_
    refine wp_block ?_
    refine W_loop (fun mz g W => ∃ (i : Nat), mz = xs.length - i ∧ g 0 = v ∧ g 1 = u ∧ g 5 = i64 ((i : Nat) : Int) ∧ Ext w W ∧ i ≤ xs.length ∧ (xs.take i).map Ev.p = (ys.take i).map Ev.p) ⟨0, rfl, rfl, rfl, rfl, hE, (Nat.zero_le _), (by simp)⟩ ?_
    rintro mz f4 w4l ⟨i, hm, q0, q1, q5, hE, hi, hall⟩
    refine wp_seq ?_
    refine wp_seq ?_
    refine W_region ?_
    refine L (D_v (R_move q5) ?_)
    refine L (D_v (R_move q0) ?_)
    refine L (D_v (R_len Tryz.underlying36 rfl (h.ext hE).1) ?_)
    refine L (D_v (R_lssI rfl rfl) ?_)
    refine S_nil ?_
    refine T_tn ?_
    refine W_if rfl (fun c2 => ?_) (fun c2 => ?_)
    ·
      have lk : i < xs.length := by simp at c2; omega
      have lk2 : i < ys.length := by omega
      have ka := ((h.ext hE)).get (i := i) (getD_some (d := Ev.zero) lk)
      have kb := ((hy.ext hE)).get (i := i) (getD_some (d := Ev.zero) lk2)
      refine wp_skip ?_
      refine T_tn ?_
      refine wp_seq ?_
      refine wp_block ?_
      refine wp_seq ?_
      refine W_draw mixed (by kernel_rfl) ?_
      refine Q_v (fun w hw => R_move q0) ?_
      refine Q_v (fun w hw => R_move q5) ?_
      refine Q_v (fun w hw => R_elAddr (i := i) Tryz.underlying36 Tryz.sizeOf51 rfl rfl (h.ext (hE.trans hw)).1 (by (try simp only [List.length_take, List.length_drop, List.length_append, List.length_cons, List.length_nil, List.length_replicate, List.length_set, Nm.b_len, be2_len]); omega)) ?_
      refine Q_v (fun w hw => R_fieldEl (k := i * 46) Tryz.runUnderlying51 rfl Tryz.sizeOf34 (h.ext (hE.trans hw)).1 (lel_ltz (C := cE) (s := 46) rfl (by decide) (getD_some (d := Ev.zero) (by (try simp only [List.length_take, List.length_drop, List.length_append, List.length_cons, List.length_nil, List.length_replicate, List.length_set, Nm.b_len, be2_len]); omega))) rfl) ?_
      refine Q_v (fun w hw => R_ldP (C := cE) (i := i) (k := 0) (y := ((xs).getD (i) Ev.zero)) (c := ((((xs).getD (i) Ev.zero)).a).l) Tryz.isAgg34 Tryz.sizeOf34 rfl (h.ext (hE.trans hw)) (getD_some (d := Ev.zero) (by (try simp only [List.length_take, List.length_drop, List.length_append, List.length_cons, List.length_nil, List.length_replicate, List.length_set, Nm.b_len, be2_len]); omega)) (by decide) (by decide) rfl) ?_
      refine Q_v (fun w hw => R_move q1) ?_
      refine Q_v (fun w hw => R_move q5) ?_
      refine Q_v (fun w hw => R_elAddr (i := i) Tryz.underlying36 Tryz.sizeOf51 rfl rfl (hy.ext (hE.trans hw)).1 (by (try simp only [List.length_take, List.length_drop, List.length_append, List.length_cons, List.length_nil, List.length_replicate, List.length_set, Nm.b_len, be2_len]); omega)) ?_
      refine Q_v (fun w hw => R_fieldEl (k := i * 46) Tryz.runUnderlying51 rfl Tryz.sizeOf34 (hy.ext (hE.trans hw)).1 (lel_ltz (C := cE) (s := 46) rfl (by decide) (getD_some (d := Ev.zero) (by (try simp only [List.length_take, List.length_drop, List.length_append, List.length_cons, List.length_nil, List.length_replicate, List.length_set, Nm.b_len, be2_len]); omega))) rfl) ?_
      refine Q_v (fun w hw => R_ldP (C := cE) (i := i) (k := 0) (y := ((ys).getD (i) Ev.zero)) (c := ((((ys).getD (i) Ev.zero)).a).l) Tryz.isAgg34 Tryz.sizeOf34 rfl (hy.ext (hE.trans hw)) (getD_some (d := Ev.zero) (by (try simp only [List.length_take, List.length_drop, List.length_append, List.length_cons, List.length_nil, List.length_replicate, List.length_set, Nm.b_len, be2_len]); omega)) (by decide) (by decide) rfl) ?_
      refine Q_call (fun w hw => R_callF Tryz.call9 rfl rfl) (fun w hw => c77 ((((xs).getD (i) Ev.zero)).a) ((((ys).getD (i) Ev.zero)).a) _ (((ka.fb (Fb.ext hw)).1).up (Nat.le_trans (Nat.le_refl _) (hE.trans hw).size)) (((kb.fb (Fb.ext hw)).1).up (Nat.le_trans (Nat.le_refl _) (hE.trans hw).size))) ?_
      refine Q_v (fun w hw => R_not rfl) ?_
      refine Q_v (fun w hw => R_move rfl) ?_
      refine Q_g1 rfl rfl (fun hb w hw => R_move q0) ?_
      refine Q_g1 rfl rfl (fun hb w hw => R_move q5) ?_
      refine Q_g1 rfl rfl (fun hb w hw => R_elAddr (i := i) Tryz.underlying36 Tryz.sizeOf51 (cgE hb) (cgE hb) (h.ext (hE.trans hw)).1 (by first | ((try simp only [List.length_take, List.length_drop, List.length_append, List.length_cons, List.length_nil]); omega) | (simp at hb; omega))) ?_
      refine Q_g1 rfl rfl (fun hb w hw => R_fieldEl (k := i * 46) Tryz.runUnderlying51 rfl Tryz.sizeOf34 (h.ext (hE.trans hw)).1 (lel_ltz (C := cE) (s := 46) rfl (by decide) (getD_some (d := Ev.zero) (by first | ((try simp only [List.length_take, List.length_drop, List.length_append, List.length_cons, List.length_nil]); omega) | (simp at hb; omega)))) (cgE hb)) ?_
      refine Q_g1 rfl rfl (fun hb w hw => R_ldP (C := cE) (i := i) (k := 23) (y := ((xs).getD (i) Ev.zero)) (c := ((((xs).getD (i) Ev.zero)).b).l) Tryz.isAgg34 Tryz.sizeOf34 (cgE hb) (h.ext (hE.trans hw)) (getD_some (d := Ev.zero) (by first | ((try simp only [List.length_take, List.length_drop, List.length_append, List.length_cons, List.length_nil]); omega) | (simp at hb; omega))) (by decide) (by decide) rfl) ?_
      refine Q_g1 rfl rfl (fun hb w hw => R_move q1) ?_
      refine Q_g1 rfl rfl (fun hb w hw => R_move q5) ?_
      refine Q_g1 rfl rfl (fun hb w hw => R_elAddr (i := i) Tryz.underlying36 Tryz.sizeOf51 (cgE hb) (cgE hb) (hy.ext (hE.trans hw)).1 (by first | ((try simp only [List.length_take, List.length_drop, List.length_append, List.length_cons, List.length_nil]); omega) | (simp at hb; omega))) ?_
      refine Q_g1 rfl rfl (fun hb w hw => R_fieldEl (k := i * 46) Tryz.runUnderlying51 rfl Tryz.sizeOf34 (hy.ext (hE.trans hw)).1 (lel_ltz (C := cE) (s := 46) rfl (by decide) (getD_some (d := Ev.zero) (by first | ((try simp only [List.length_take, List.length_drop, List.length_append, List.length_cons, List.length_nil]); omega) | (simp at hb; omega)))) (cgE hb)) ?_
      refine Q_g1 rfl rfl (fun hb w hw => R_ldP (C := cE) (i := i) (k := 23) (y := ((ys).getD (i) Ev.zero)) (c := ((((ys).getD (i) Ev.zero)).b).l) Tryz.isAgg34 Tryz.sizeOf34 (cgE hb) (hy.ext (hE.trans hw)) (getD_some (d := Ev.zero) (by first | ((try simp only [List.length_take, List.length_drop, List.length_append, List.length_cons, List.length_nil]); omega) | (simp at hb; omega))) (by decide) (by decide) rfl) ?_
      refine Q_gc1 rfl rfl (fun hb w hw => R_callF Tryz.call9 (mapv2 (cgE hb) (cgE hb)) rfl) (fun hb w hw => c77 ((((xs).getD (i) Ev.zero)).b) ((((ys).getD (i) Ev.zero)).b) _ (((ka.fb (Fb.ext hw)).2).up (Nat.le_trans (Nat.le_refl _) (hE.trans hw).size)) (((kb.fb (Fb.ext hw)).2).up (Nat.le_trans (Nat.le_refl _) (hE.trans hw).size))) ?_
      refine Q_g1 rfl rfl (fun hb w hw => R_not (cgE hb)) ?_
      refine Q_v (fun w hw => R_pickO rfl rfl rfl) ?_
      refine Q_nil (fun w6_99 e6_99 => ?_)
      replace hE := hE.trans e6_99
      replace ka := ka.fb (Fb.ext e6_99)
      replace kb := kb.fb (Fb.ext e6_99)
      refine T_tn ?_
      refine W_if rfl (fun c3 => ?_) (fun c3 => ?_)
      ·
        have hsm : (sameS (xs.getD i Ev.zero).a.p (ys.getD i Ev.zero).a.p && sameS (xs.getD i Ev.zero).b.p (ys.getD i Ev.zero).b.p) = false := not_or2 c3
        refine wp_seq ?_
        refine W_region ?_
        refine L (D_v (R_assign rfl) ?_)
        refine S_nil ?_
        refine T_tn ?_
        refine wp_ret ?_
        refine T_br ?_
        refine T_tr ?_
        refine T_tr ?_
        refine T_br ?_
        refine T_tr ?_
        refine ret1 (v := .bool _) rfl rfl ⟨?_, hE⟩
        rw [pairsS_at lk lk2 hsm]
      ·
        have hsm : (sameS (xs.getD i Ev.zero).a.p (ys.getD i Ev.zero).a.p && sameS (xs.getD i Ev.zero).b.p (ys.getD i Ev.zero).b.p) = true := not_or2 c3
        refine wp_skip ?_
        refine T_bn ?_
        refine T_tn ?_
        refine W_region ?_
        refine L (D_v (R_move q5) ?_)
        refine L (D_v (R_addN (m := i) (j := 1) rfl rfl (by (try simp only [List.length_take, List.length_drop, List.length_append, List.length_cons, List.length_nil, List.length_replicate, List.length_set, Nm.b_len, be2_len]); omega)) ?_)
        refine L (D_v (R_assign rfl) ?_)
        refine S_nil ?_
        refine T_tn ?_
        refine ⟨_, _, ?_, rfl, i + 1, rfl, q0, q1, rfl, hE, ?_, ?_⟩
        all_goals first | omega | exact pairsS_next hall lk lk2 hsm
    ·
      obtain rfl : i = xs.length := by have h9 := of_decide_eq_false c2; omega
      refine wp_exit ?_
      refine T_te ?_
      refine T_te ?_
      refine T_be ?_
      refine T_tn ?_
      refine wp_seq ?_
      refine W_region ?_
      refine L (D_v (R_assign rfl) ?_)
      refine S_nil ?_
      refine T_tn ?_
      refine wp_ret ?_
      refine ret1 (v := .bool _) rfl rfl ⟨?_, hE⟩
      rw [pairsS_all hln hall]
set_option maxRecDepth 4000 in
set_option maxHeartbeats 1000000 in
theorem c74  (w : World) : Calls Tryz.prog 15 [].toArray w (Ret w (.bool true)) := by
  refine enter Tryz.func15 Tryz.ntmps15 rfl rfl ?_
  have hE := Ext.refl w
  refine wp_seq ?_
  refine W_region ?_
  refine L (D_v (R_assign rfl) ?_)
  refine S_nil ?_
  refine T_tn ?_
  refine wp_seq ?_
  refine W_region ?_
  refine L (D_buildB (vs := [(0, u8 (1))]) (b := [1]) Tryz.underlying32 Tryz.sizeOf5 Tryz.zeroValue5 rfl (fillB1 _) rfl rfl rfl (fun v2_0 w2_0 o2_0 e2_0 => ?_))
  replace o2_0 := o2_0.lo hE.size
  replace hE := hE.trans e2_0
  refine L (D_callE (R_callF Tryz.call32 rfl rfl) (c81 v2_0 ([1]) _ o2_0.bs) (fun v2_1 w2_1 e2_1 p2_1 => ?_))
  obtain ⟨x2_1, rfl, p2_1a, k2_1⟩ := p2_1
  replace hE := hE.trans e2_1
  replace o2_0 := o2_0.ext e2_1
  refine L (D_v (R_move rfl) ?_)
  refine L (D_v (R_extract rfl rfl) ?_)
  refine L (D_v (R_extract rfl rfl) ?_)
  refine L (D_alloc (c := (Ev.zero).l) Tryz.zeroValue51 rfl (fun aB2_5 w2_5 e2_5 gB2_5 hB2_5 => ?_))
  have lB2_5 := Nat.le_trans hE.size gB2_5
  replace hE := hE.trans e2_5
  replace o2_0 := o2_0.ext e2_5
  replace k2_1 := k2_1.fb (Fb.ext e2_5)
  have xo2_0 := own_neB o2_0 hB2_5 rfl
  have h0 := hB2_5
  refine L (D_storeA Tryz.sizeOf51 hB2_5 rfl rfl rfl rfl rfl (l' := (x2_1).l) rfl (fun w2_6 k2_6 hB2_5 => ?_))
  have f2_6 := Fb.kp k2_6 (Nat.le_trans (Nat.le_refl _) lB2_5) (Blk.notB h0 rfl)
  replace hE := hE.kp k2_6 lB2_5
  replace o2_0 := o2_0.kp k2_6 xo2_0
  replace k2_1 := k2_1.fb (Fb.kp k2_6 (Nat.zero_le _) (Blk.notB h0 rfl))
  refine L (D_v (R_assign rfl) ?_)
  refine S_nil ?_
  refine T_tn ?_
  refine wp_seq ?_
  refine W_region ?_
  refine L (D_v (R_move rfl) ?_)
  refine L (D_on rfl rfl (D_call (R_callF Tryz.call13 rfl rfl) (c71 (Value.slice none 0 0) ([]) w.heap.size (Value.slice none 0 0) ([]) _ ((Ls.nil cN w.heap.size _).lev fun _ _ _ => trivial) (Nat.le_trans (Nat.le_refl _) hE.size) (by (try simp only [List.length_take, List.length_drop, List.length_append, List.length_cons, List.length_nil, List.length_replicate, List.length_set, Nm.b_len, be2_len]); omega) (Ls.nil cS w.heap.size _)) (fun w3_1 e3_1 => ?_)))
  replace hE := hE.trans e3_1
  replace k2_1 := k2_1.fb (Fb.ext e3_1)
  refine L (D_on rfl rfl (D_v (R_eqlI rfl rfl) ?_))
  refine L (D_v (R_pick rfl rfl rfl) ?_)
  refine L (D_v (R_move rfl) ?_)
  refine L (D_g1 rfl rfl (fun hb => R_move rfl) ?_)
  refine L (D_g1 rfl rfl (fun hb => R_eqlI (cgE hb) rfl) ?_)
  refine L (D_v (R_pickA rfl rfl rfl) ?_)
  refine L (D_v (R_assign rfl) ?_)
  refine S_nil ?_
  refine T_tn ?_
  refine wp_ret ?_
  refine ret1 (v := .bool _) rfl rfl ⟨congrArg (fun b => Ending.returned (Value.bool b)) ?_, hE⟩
  rw [gk_nil, decE_short (show ([1] : List UInt8).length < 786 from by decide)]; rfl
end Go.Proofs.YteeopgpgbdhmhaaGreat
