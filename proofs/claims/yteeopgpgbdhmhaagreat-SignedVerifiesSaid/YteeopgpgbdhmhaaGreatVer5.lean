/- What the law needs, part 5. No condition. -/
import Derived.Deep.DeepAppendWide
import Derived.Maps.Keyed
import Derived.DeepKeys5
import Derived.Test.YteeopgpgbdhmhaaGreatVer4
namespace Go.Proofs.YteeopgpgbdhmhaaGreat
open Go.RowKit
set_option linter.unusedVariables false
set_option linter.unusedSimpArgs false
attribute [local irreducible] wpList wpO H wpQuiet wpStill Code.wp Exit.then Exit.inBlock bodyPost Code.rounds Calls valid sameKey lessV hless num between
set_option maxRecDepth 4000 in
set_option maxHeartbeats 1000000 in
theorem c168_2 (I : Int) (w : World) (hI : I = 2) : Calls Tryz.prog 71 [i64 I].toArray w (Ret w (i64 370)) := by
  refine enter Tryz.func71 Tryz.ntmps71 rfl rfl ?_
  have hE := Ext.refl w
  refine wp_seq ?_
  refine W_region ?_
  refine L (D_v (R_assign rfl) ?_)
  refine S_nil ?_
  refine T_tn ?_
  refine wp_seq ?_
  refine wp_seq ?_
  refine W_region ?_
  refine L (D_v (R_move rfl) ?_)
  refine L (D_v (R_lssI rfl rfl) ?_)
  refine L (D_v (R_move rfl) ?_)
  refine L (D_g1 rfl rfl (fun hb => R_move rfl) ?_)
  refine L (D_g1 rfl rfl (fun hb => R_gtrI (cgE hb) rfl) ?_)
  refine L (D_v (R_pickO rfl rfl rfl) ?_)
  refine S_nil ?_
  refine T_tn ?_
  refine W_if rfl (fun c1 => ?_) (fun c1 => ?_)
  ·
    exfalso; subst hI; simp at c1
  ·
    subst hI
    refine wp_skip ?_
    refine T_tn ?_
    refine wp_seq ?_
    refine W_region ?_
    refine L (D_v (R_move rfl) ?_)
    refine L (D_v (R_cast (v' := .int .i64 (368)) (R_mulI rfl rfl) rfl) ?_)
    refine L (D_v (R_cast (v' := .int .i64 (370)) (R_addI rfl rfl) rfl) ?_)
    refine L (D_v (R_assign rfl) ?_)
    refine S_nil ?_
    refine T_tn ?_
    refine wp_ret ?_
    refine ret1 (v := .int _ _) rfl rfl ⟨?_, hE⟩
    rfl
set_option maxRecDepth 4000 in
set_option maxHeartbeats 1000000 in
theorem c169_2  (w : World) : Calls Tryz.prog 72 [i64 2].toArray w (Ret w (i64 1024)) := by
  refine enter Tryz.func72 Tryz.ntmps72 rfl rfl ?_
  have hE := Ext.refl w
  refine wp_seq ?_
  refine W_region ?_
  refine L (D_v (R_assign rfl) ?_)
  refine S_nil ?_
  refine T_tn ?_
  refine wp_seq ?_
  refine wp_seq ?_
  refine W_region ?_
  refine L (D_v (R_move rfl) ?_)
  refine S_nil ?_
  refine T_tn ?_
  refine wp_block ?_
  refine wp_seq ?_
  refine W_region ?_
  refine L (D_v (R_cast (v' := .bool false) (R_eqlI rfl rfl) rfl) ?_)
  refine L (D_v (R_assign rfl) ?_)
  refine S_nil ?_
  refine T_tn ?_
  refine W_iff rfl ?_
  refine wp_seq ?_
  refine W_region ?_
  refine L (D_v (R_cast (v' := .bool true) (R_eqlI rfl rfl) rfl) ?_)
  refine L (D_v (R_assign rfl) ?_)
  refine S_nil ?_
  refine T_tn ?_
  refine W_ift rfl ?_
  refine wp_seq ?_
  refine W_region ?_
  refine L (D_v (R_assign rfl) ?_)
  refine S_nil ?_
  refine T_tn ?_
  refine wp_ret ?_
  refine T_br ?_
  refine T_tr ?_
  refine ret1 (v := .int _ _) rfl rfl ⟨?_, hE⟩
  rfl
set_option maxRecDepth 4000 in
set_option maxHeartbeats 4000000 in
theorem c139 (pub m : Nm) (v : Value) (b : List UInt8) (I : Int) (w : World) (hI : I = 2) (h : Bs w v b) : Calls Tryz.prog 41 [pub.v, i64 I, m.v, v].toArray w (Ret w (.bool (ver pub m b))) := by
  refine enter Tryz.func41 Tryz.ntmps41 rfl rfl ?_
  have hE := Ext.refl w
  have hbb := h.le
  refine wp_seq ?_
  refine W_region ?_
  refine L (D_box (c := (pub).l) (rfl) (fun aB1_0 w1_0 e1_0 gB1_0 hB1_0 => ?_))
  have lB1_0 := Nat.le_trans hE.size gB1_0
  replace hE := hE.trans e1_0
  refine L (D_box (c := (m).l) (rfl) (fun aB1_1 w1_1 e1_1 gB1_1 hB1_1 => ?_))
  have lB1_1 := Nat.le_trans hE.size gB1_1
  have nB1_0B1_1 := hB1_0.ne gB1_1
  replace hE := hE.trans e1_1
  replace hB1_0 := hB1_0.ext e1_1
  refine L (D_v (R_assign rfl) ?_)
  refine S_nil ?_
  refine T_tn ?_
  refine wp_seq ?_
  refine wp_seq ?_
  refine W_region ?_
  refine L (D_v (R_move rfl) ?_)
  refine L (D_v (R_lssI rfl rfl) ?_)
  refine L (D_v (R_move rfl) ?_)
  refine L (D_g1 rfl rfl (fun hb => R_move rfl) ?_)
  refine L (D_g1 rfl rfl (fun hb => R_gtrI (cgE hb) rfl) ?_)
  refine L (D_v (R_pickO rfl rfl rfl) ?_)
  refine L (D_v (R_move rfl) ?_)
  refine L (D_g1 rfl rfl (fun hb => R_move rfl) ?_)
  refine L (D_g1 rfl rfl (fun hb => R_len Tryz.underlying32 (cgE hb) (h.ext hE)) ?_)
  refine L (D_g1 rfl rfl (fun hb => R_move rfl) ?_)
  refine L (D_gc1 rfl rfl (fun hb => R_callF Tryz.call71 (mapv1 (cgE hb)) rfl) (fun hb => c168_2 _ _ hI) (fun w2_10 e2_10 => ?_))
  replace hE := hE.trans e2_10
  replace hB1_0 := hB1_0.ext e2_10
  replace hB1_1 := hB1_1.ext e2_10
  refine L (D_g1 rfl rfl (fun hb => R_neqI (cgE hb) (cgE hb)) ?_)
  refine L (D_v (R_pickO rfl rfl rfl) ?_)
  refine S_nil ?_
  refine T_tn ?_
  refine W_if rfl (fun c1 => ?_) (fun c1 => ?_)
  ·
    subst hI
    have hv : ¬ b.length = 370 := by simp at c1; omega
    refine wp_seq ?_
    refine W_region ?_
    refine L (D_v (R_assign rfl) ?_)
    refine S_nil ?_
    refine T_tn ?_
    refine wp_ret ?_
    refine T_tr ?_
    refine ret1 (v := .bool _) rfl rfl ⟨congrArg (fun b => Ending.returned (Value.bool b)) ?_, hE⟩
    unfold ver; rw [decide_eq_false hv]; rfl
  ·
    subst hI
    have hv : b.length = 370 := by simp at c1; omega
    refine wp_skip ?_
    refine T_tn ?_
    refine wp_seq ?_
    refine W_draw mixed (by kernel_rfl) ?_
    refine Q_v (fun w hw => R_move rfl) ?_
    refine Q_v (fun w hw => R_elAddr (i := 0) Tryz.underlying32 Tryz.sizeOf5 rfl rfl (h.ext (hE.trans hw)) (by (try simp only [List.length_take, List.length_drop, List.length_append, List.length_cons, List.length_nil, List.length_replicate, List.length_set, Nm.b_len, be2_len]); omega)) ?_
    refine Q_v (fun w hw => R_loadEl (u := u8 (((b).getD 0 0))) Tryz.isAgg5 rfl (h.ext (hE.trans hw)) (bl_get (by (try simp only [List.length_take, List.length_drop, List.length_append, List.length_cons, List.length_nil, List.length_replicate, List.length_set, Nm.b_len, be2_len]); omega))) ?_
    refine Q_v (fun w hw => R_convU (b := ((b).getD 0 0)) Tryz.runUnderlying3 (by decide) rfl) ?_
    refine Q_v (fun w hw => R_shlC (z := 8) rfl rfl (by decide) (by decide)) ?_
    refine Q_v (fun w hw => R_move rfl) ?_
    refine Q_v (fun w hw => R_elAddr (i := 1) Tryz.underlying32 Tryz.sizeOf5 rfl rfl (h.ext (hE.trans hw)) (by (try simp only [List.length_take, List.length_drop, List.length_append, List.length_cons, List.length_nil, List.length_replicate, List.length_set, Nm.b_len, be2_len]); omega)) ?_
    refine Q_v (fun w hw => R_loadEl (u := u8 (((b).getD 1 0))) Tryz.isAgg5 rfl (h.ext (hE.trans hw)) (bl_get (by (try simp only [List.length_take, List.length_drop, List.length_append, List.length_cons, List.length_nil, List.length_replicate, List.length_set, Nm.b_len, be2_len]); omega))) ?_
    refine Q_v (fun w hw => R_convU (b := ((b).getD 1 0)) Tryz.runUnderlying3 (by decide) rfl) ?_
    refine Q_v (fun w hw => R_or8 (a := ((b).getD 0 0)) (b := ((b).getD 1 0)) rfl rfl) ?_
    refine Q_v (fun w hw => R_assign rfl) ?_
    refine Q_nil (fun w3_99 e3_99 => ?_)
    replace hE := hE.trans e3_99
    replace hB1_0 := hB1_0.ext e3_99
    replace hB1_1 := hB1_1.ext e3_99
    refine T_tn ?_
    refine wp_seq ?_
    refine wp_seq ?_
    refine W_region ?_
    refine L (D_v (R_move rfl) ?_)
    refine L (D_v (R_move rfl) ?_)
    refine L (D_call (R_callF Tryz.call72 rfl rfl) (c169_2 _) (fun w4_2 e4_2 => ?_))
    replace hE := hE.trans e4_2
    replace hB1_0 := hB1_0.ext e4_2
    replace hB1_1 := hB1_1.ext e4_2
    refine L (D_v (R_geqI rfl rfl) ?_)
    refine S_nil ?_
    refine T_tn ?_
    refine W_if rfl (fun c2 => ?_) (fun c2 => ?_)
    ·
      have hw : ¬ leafNo b < 1024 := by have h1 := of_decide_eq_true c2; unfold leafNo; omega
      refine wp_seq ?_
      refine W_region ?_
      refine L (D_v (R_assign rfl) ?_)
      refine S_nil ?_
      refine T_tn ?_
      refine wp_ret ?_
      refine T_tr ?_
      refine ret1 (v := .bool _) rfl rfl ⟨congrArg (fun b => Ending.returned (Value.bool b)) ?_, hE⟩
      unfold ver; rw [decide_eq_true hv, decide_eq_false hw]; rfl
    ·
      have hw : leafNo b < 1024 := by have h1 := of_decide_eq_false c2; unfold leafNo; omega
      have hw2 : leafNo b = (b.getD 0 0).toNat * 256 + (b.getD 1 0).toNat := rfl
      refine wp_skip ?_
      refine T_tn ?_
      refine wp_seq ?_
      refine W_cut (R := fun g W => ∃ (v5_2 : Value) (aB5_7 : Nat), (g 1 = i64 (2)) ∧ (g 3 = v) ∧ (g 4 = .pointer (some ⟨aB1_0, 0, none⟩)) ∧ (g 9 = i64 (((((b).getD 0 0).toNat * 256 + ((b).getD 1 0).toNat) : Nat) : Int)) ∧ (g 10 = .pointer (some ⟨aB5_7, 0, none⟩)) ∧ Ext w W ∧ Blk W aB1_0 (pub).l 29 ∧ Blk W aB1_1 (m).l 29 ∧ Blk W aB5_7 ((recN m ((nmsAt (b) (2) (18))))).l 29 ∧ w.heap.size ≤ aB5_7 ∧ aB1_0 ≠ aB5_7 ∧ aB1_1 ≠ aB5_7 ∧ Value.ownBlock v5_2 ≠ some aB1_0 ∧ Value.ownBlock v5_2 ≠ some aB1_1 ∧ Value.ownBlock v5_2 ≠ some aB5_7) ?_ ?_
      ·
        refine W_held (fun W => Ext w W ∧ Blk W aB1_0 (pub).l 29 ∧ Blk W aB1_1 (m).l 29 ∧ True) mixed (fun w5_99 e5_99 => ?_)
        replace hE := hE.trans e5_99
        replace hB1_0 := hB1_0.ext e5_99
        replace hB1_1 := hB1_1.ext e5_99
        refine H_take (i := 0) rfl (by kernel_rfl) (by kernel_rfl) (by kernel_rfl) rfl pq_cut ⟨hE, hB1_0, hB1_1, trivial⟩ rfl (fun w hw => R_loadA (c := (m).l) Tryz.isAgg29 Tryz.sizeOf29 hw.2.2.1 rfl rfl rfl) ?_
        refine H_take (i := 1) rfl (by kernel_rfl) (by kernel_rfl) (by kernel_rfl) rfl pq_cut ⟨hE, hB1_0, hB1_1, trivial⟩ rfl (fun w hw => R_move rfl) ?_
        refine H_op2 (i := 2) (i2 := 7) (by kernel_rfl) rfl rfl rfl rfl ?_ ?_
        ·
          refine D_callE (R_callF Tryz.call74 rfl rfl) (c171 v (b) (2) (18) _ (h.ext hE) (by omega) (by omega) (by omega)) (fun v5_2 w5_2 e5_2 p5_2 => ?_)
          have o5_2 := p5_2
          have yv5_2_B1_0 : Value.ownBlock v5_2 ≠ some aB1_0 := fun hk => absurd (own_ge o5_2.1 hk) (Nat.not_le.2 hB1_0.lt)
          have yv5_2_B1_1 : Value.ownBlock v5_2 ≠ some aB1_1 := fun hk => absurd (own_ge o5_2.1 hk) (Nat.not_le.2 hB1_1.lt)
          replace o5_2 := o5_2.low hE.size
          replace o5_2 := Ow.lev (lo' := w.heap.size) o5_2 (fun _ _ _ => trivial)
          replace hE := hE.trans e5_2
          replace hB1_0 := hB1_0.ext e5_2
          replace hB1_1 := hB1_1.ext e5_2
          refine ⟨⟨hE, hB1_0, hB1_1, trivial⟩, ?_⟩
          refine H_op2 (i := 3) (i2 := 7) (by kernel_rfl) rfl rfl rfl rfl ?_ ?_
          ·
            refine D_call (R_callF Tryz.call73 rfl rfl) (c170 (m) v5_2 ((nmsAt (b) (2) (18))) _ (by first | rfl | omega | exact nmsAt_len _ _ _) (o5_2.ls.lev fun _ _ _ => trivial)) (fun w5_3 e5_3 => ?_)
            replace hE := hE.trans e5_3
            replace hB1_0 := hB1_0.ext e5_3
            replace hB1_1 := hB1_1.ext e5_3
            replace o5_2 := o5_2.ext e5_3
            refine ⟨⟨hE, hB1_0, hB1_1, trivial⟩, ?_⟩
            refine H_take (i := 4) rfl (by kernel_rfl) (by kernel_rfl) (by kernel_rfl) rfl pq_cut ⟨hE, hB1_0, hB1_1, trivial⟩ rfl (fun w hw => R_move rfl) ?_
            refine H_take (i := 5) rfl (by kernel_rfl) (by kernel_rfl) (by kernel_rfl) rfl pq_cut ⟨hE, hB1_0, hB1_1, trivial⟩ rfl (fun w hw => R_extract rfl rfl) ?_
            refine H_take (i := 6) rfl (by kernel_rfl) (by kernel_rfl) (by kernel_rfl) rfl pq_cut ⟨hE, hB1_0, hB1_1, trivial⟩ rfl (fun w hw => R_extract rfl rfl) ?_
            refine H_op (i := 7) (by kernel_rfl) rfl rfl (D_alloc (c := (Nm.zero).l) Tryz.zeroValue29 rfl (fun aB5_7 w5_7 e5_7 gB5_7 hB5_7 => ?_))
            have lB5_7 := Nat.le_trans hE.size gB5_7
            have nB1_0B5_7 := hB1_0.ne gB5_7
            have nB1_1B5_7 := hB1_1.ne gB5_7
            have yv5_2_B5_7 : Value.ownBlock v5_2 ≠ some aB5_7 := fun hk => absurd (own_lt o5_2.1 hk) (Nat.not_lt.2 gB5_7)
            replace hE := hE.trans e5_7
            replace hB1_0 := hB1_0.ext e5_7
            replace hB1_1 := hB1_1.ext e5_7
            replace o5_2 := o5_2.ext e5_7
            refine ⟨⟨hE, hB1_0, hB1_1, trivial⟩, ?_⟩
            have xo5_2 := yv5_2_B5_7
            have h0 := hB5_7
            refine H_op (i := 8) (by kernel_rfl) rfl rfl (D_storeA Tryz.sizeOf29 hB5_7 rfl rfl rfl rfl rfl (l' := ((recN m ((nmsAt (b) (2) (18))))).l) rfl (fun w5_8 k5_8 hB5_7 => ?_))
            have f5_8 := Fb.kp k5_8 (Nat.le_trans (Nat.le_refl _) lB5_7) (Blk.notB h0 rfl)
            replace hE := hE.kp k5_8 lB5_7
            replace hB1_0 := hB1_0.kp k5_8 nB1_0B5_7
            replace hB1_1 := hB1_1.kp k5_8 nB1_1B5_7
            replace o5_2 := o5_2.kp k5_8 xo5_2 f5_8
            refine ⟨⟨hE, hB1_0, hB1_1, trivial⟩, ?_⟩
            refine H_take (i := 9) rfl (by kernel_rfl) (by kernel_rfl) (by kernel_rfl) rfl pq_cut ⟨hE, hB1_0, hB1_1, trivial⟩ rfl (fun w hw => R_assign rfl) ?_
            refine H_done (by kernel_rfl) ?_
            exact ⟨rfl, _, rfl, _, _, rfl, rfl, rfl, rfl, rfl, hE, hB1_0, hB1_1, hB5_7, lB5_7, nB1_0B5_7, nB1_1B5_7, yv5_2_B1_0, yv5_2_B1_1, yv5_2_B5_7⟩
          ·
            refine D_alloc (c := (Nm.zero).l) Tryz.zeroValue29 rfl (fun aB5_7 w5_7 e5_7 gB5_7 hB5_7 => ?_)
            have lB5_7 := Nat.le_trans hE.size gB5_7
            have nB1_0B5_7 := hB1_0.ne gB5_7
            have nB1_1B5_7 := hB1_1.ne gB5_7
            have yv5_2_B5_7 : Value.ownBlock v5_2 ≠ some aB5_7 := fun hk => absurd (own_lt o5_2.1 hk) (Nat.not_lt.2 gB5_7)
            replace hE := hE.trans e5_7
            replace hB1_0 := hB1_0.ext e5_7
            replace hB1_1 := hB1_1.ext e5_7
            replace o5_2 := o5_2.ext e5_7
            refine ⟨⟨hE, hB1_0, hB1_1, trivial⟩, ?_⟩
            refine H_op (i := 3) (by kernel_rfl) rfl rfl (D_call (R_callF Tryz.call73 rfl rfl) (c170 (m) v5_2 ((nmsAt (b) (2) (18))) _ (by first | rfl | omega | exact nmsAt_len _ _ _) (o5_2.ls.lev fun _ _ _ => trivial)) (fun w5_3 e5_3 => ?_))
            replace hE := hE.trans e5_3
            replace hB1_0 := hB1_0.ext e5_3
            replace hB1_1 := hB1_1.ext e5_3
            replace hB5_7 := hB5_7.ext e5_3
            replace o5_2 := o5_2.ext e5_3
            refine ⟨⟨hE, hB1_0, hB1_1, trivial⟩, ?_⟩
            refine H_take (i := 4) rfl (by kernel_rfl) (by kernel_rfl) (by kernel_rfl) rfl pq_cut ⟨hE, hB1_0, hB1_1, trivial⟩ rfl (fun w hw => R_move rfl) ?_
            refine H_take (i := 5) rfl (by kernel_rfl) (by kernel_rfl) (by kernel_rfl) rfl pq_cut ⟨hE, hB1_0, hB1_1, trivial⟩ rfl (fun w hw => R_extract rfl rfl) ?_
            refine H_take (i := 6) rfl (by kernel_rfl) (by kernel_rfl) (by kernel_rfl) rfl pq_cut ⟨hE, hB1_0, hB1_1, trivial⟩ rfl (fun w hw => R_extract rfl rfl) ?_
            have xo5_2 := yv5_2_B5_7
            have h0 := hB5_7
            refine H_op (i := 8) (by kernel_rfl) rfl rfl (D_storeA Tryz.sizeOf29 hB5_7 rfl rfl rfl rfl rfl (l' := ((recN m ((nmsAt (b) (2) (18))))).l) rfl (fun w5_8 k5_8 hB5_7 => ?_))
            have f5_8 := Fb.kp k5_8 (Nat.le_trans (Nat.le_refl _) lB5_7) (Blk.notB h0 rfl)
            replace hE := hE.kp k5_8 lB5_7
            replace hB1_0 := hB1_0.kp k5_8 nB1_0B5_7
            replace hB1_1 := hB1_1.kp k5_8 nB1_1B5_7
            replace o5_2 := o5_2.kp k5_8 xo5_2 f5_8
            refine ⟨⟨hE, hB1_0, hB1_1, trivial⟩, ?_⟩
            refine H_take (i := 9) rfl (by kernel_rfl) (by kernel_rfl) (by kernel_rfl) rfl pq_cut ⟨hE, hB1_0, hB1_1, trivial⟩ rfl (fun w hw => R_assign rfl) ?_
            refine H_done (by kernel_rfl) ?_
            exact ⟨rfl, _, rfl, _, _, rfl, rfl, rfl, rfl, rfl, hE, hB1_0, hB1_1, hB5_7, lB5_7, nB1_0B5_7, nB1_1B5_7, yv5_2_B1_0, yv5_2_B1_1, yv5_2_B5_7⟩
        ·
          refine D_alloc (c := (Nm.zero).l) Tryz.zeroValue29 rfl (fun aB5_7 w5_7 e5_7 gB5_7 hB5_7 => ?_)
          have lB5_7 := Nat.le_trans hE.size gB5_7
          have nB1_0B5_7 := hB1_0.ne gB5_7
          have nB1_1B5_7 := hB1_1.ne gB5_7
          replace hE := hE.trans e5_7
          replace hB1_0 := hB1_0.ext e5_7
          replace hB1_1 := hB1_1.ext e5_7
          refine ⟨⟨hE, hB1_0, hB1_1, trivial⟩, ?_⟩
          refine H_op (i := 2) (by kernel_rfl) rfl rfl (D_callE (R_callF Tryz.call74 rfl rfl) (c171 v (b) (2) (18) _ (h.ext hE) (by omega) (by omega) (by omega)) (fun v5_2 w5_2 e5_2 p5_2 => ?_))
          have o5_2 := p5_2
          have yv5_2_B1_0 : Value.ownBlock v5_2 ≠ some aB1_0 := fun hk => absurd (own_ge o5_2.1 hk) (Nat.not_le.2 hB1_0.lt)
          have yv5_2_B1_1 : Value.ownBlock v5_2 ≠ some aB1_1 := fun hk => absurd (own_ge o5_2.1 hk) (Nat.not_le.2 hB1_1.lt)
          have yv5_2_B5_7 : Value.ownBlock v5_2 ≠ some aB5_7 := fun hk => absurd (own_ge o5_2.1 hk) (Nat.not_le.2 hB5_7.lt)
          replace o5_2 := o5_2.low hE.size
          replace o5_2 := Ow.lev (lo' := w.heap.size) o5_2 (fun _ _ _ => trivial)
          replace hE := hE.trans e5_2
          replace hB1_0 := hB1_0.ext e5_2
          replace hB1_1 := hB1_1.ext e5_2
          replace hB5_7 := hB5_7.ext e5_2
          refine ⟨⟨hE, hB1_0, hB1_1, trivial⟩, ?_⟩
          refine H_op (i := 3) (by kernel_rfl) rfl rfl (D_call (R_callF Tryz.call73 rfl rfl) (c170 (m) v5_2 ((nmsAt (b) (2) (18))) _ (by first | rfl | omega | exact nmsAt_len _ _ _) (o5_2.ls.lev fun _ _ _ => trivial)) (fun w5_3 e5_3 => ?_))
          replace hE := hE.trans e5_3
          replace hB1_0 := hB1_0.ext e5_3
          replace hB1_1 := hB1_1.ext e5_3
          replace hB5_7 := hB5_7.ext e5_3
          replace o5_2 := o5_2.ext e5_3
          refine ⟨⟨hE, hB1_0, hB1_1, trivial⟩, ?_⟩
          refine H_take (i := 4) rfl (by kernel_rfl) (by kernel_rfl) (by kernel_rfl) rfl pq_cut ⟨hE, hB1_0, hB1_1, trivial⟩ rfl (fun w hw => R_move rfl) ?_
          refine H_take (i := 5) rfl (by kernel_rfl) (by kernel_rfl) (by kernel_rfl) rfl pq_cut ⟨hE, hB1_0, hB1_1, trivial⟩ rfl (fun w hw => R_extract rfl rfl) ?_
          refine H_take (i := 6) rfl (by kernel_rfl) (by kernel_rfl) (by kernel_rfl) rfl pq_cut ⟨hE, hB1_0, hB1_1, trivial⟩ rfl (fun w hw => R_extract rfl rfl) ?_
          have xo5_2 := yv5_2_B5_7
          have h0 := hB5_7
          refine H_op (i := 8) (by kernel_rfl) rfl rfl (D_storeA Tryz.sizeOf29 hB5_7 rfl rfl rfl rfl rfl (l' := ((recN m ((nmsAt (b) (2) (18))))).l) rfl (fun w5_8 k5_8 hB5_7 => ?_))
          have f5_8 := Fb.kp k5_8 (Nat.le_trans (Nat.le_refl _) lB5_7) (Blk.notB h0 rfl)
          replace hE := hE.kp k5_8 lB5_7
          replace hB1_0 := hB1_0.kp k5_8 nB1_0B5_7
          replace hB1_1 := hB1_1.kp k5_8 nB1_1B5_7
          replace o5_2 := o5_2.kp k5_8 xo5_2 f5_8
          refine ⟨⟨hE, hB1_0, hB1_1, trivial⟩, ?_⟩
          refine H_take (i := 9) rfl (by kernel_rfl) (by kernel_rfl) (by kernel_rfl) rfl pq_cut ⟨hE, hB1_0, hB1_1, trivial⟩ rfl (fun w hw => R_assign rfl) ?_
          refine H_done (by kernel_rfl) ?_
          exact ⟨rfl, _, rfl, _, _, rfl, rfl, rfl, rfl, rfl, hE, hB1_0, hB1_1, hB5_7, lB5_7, nB1_0B5_7, nB1_1B5_7, yv5_2_B1_0, yv5_2_B1_1, yv5_2_B5_7⟩
      rintro f5 w5c ⟨v5_2, aB5_7, q1, q3, q4, q9, q10, hE, hB1_0, hB1_1, hB5_7, lB5_7, nB1_0B5_7, nB1_1B5_7, yv5_2_B1_0, yv5_2_B1_1, yv5_2_B5_7⟩
      refine T_tn ?_
      refine wp_seq ?_
      refine W_cut (R := fun g W => ∃ (v6_4 : Value) (aB6_9 : Nat), (g 1 = i64 (2)) ∧ (g 3 = v) ∧ (g 4 = .pointer (some ⟨aB1_0, 0, none⟩)) ∧ (g 9 = i64 (((((b).getD 0 0).toNat * 256 + ((b).getD 1 0).toNat) : Nat) : Int)) ∧ (g 12 = .pointer (some ⟨aB6_9, 0, none⟩)) ∧ Ext w W ∧ Blk W aB1_0 (pub).l 29 ∧ Blk W aB5_7 ((recN m ((nmsAt (b) (2) (18))))).l 29 ∧ Blk W aB6_9 ((cmp (32) (recN m ((nmsAt (b) (2) (18)))) (((((b).getD 0 0).toNat * 256 + ((b).getD 1 0).toNat) % 32)) (32) ((nmsAt (b) (146) (5))))).l 29 ∧ w.heap.size ≤ aB6_9 ∧ aB1_0 ≠ aB6_9 ∧ aB5_7 ≠ aB6_9 ∧ Value.ownBlock v6_4 ≠ some aB1_0 ∧ Value.ownBlock v6_4 ≠ some aB5_7 ∧ Value.ownBlock v6_4 ≠ some aB6_9) ?_ ?_
      ·
        refine W_held (fun W => Ext w W ∧ Blk W aB1_0 (pub).l 29 ∧ Blk W aB5_7 ((recN m ((nmsAt (b) (2) (18))))).l 29 ∧ True) mixed (fun w6_99 e6_99 => ?_)
        replace hE := hE.trans e6_99
        replace hB1_0 := hB1_0.ext e6_99
        replace hB5_7 := hB5_7.ext e6_99
        refine H_take (i := 0) rfl (by kernel_rfl) (by kernel_rfl) (by kernel_rfl) rfl pq_cut ⟨hE, hB1_0, hB5_7, trivial⟩ rfl (fun w hw => R_loadA (c := ((recN m ((nmsAt (b) (2) (18))))).l) Tryz.isAgg29 Tryz.sizeOf29 hw.2.2.1 q10 rfl rfl) ?_
        refine H_take (i := 1) rfl (by kernel_rfl) (by kernel_rfl) (by kernel_rfl) rfl pq_cut ⟨hE, hB1_0, hB5_7, trivial⟩ rfl (fun w hw => R_move q9) ?_
        refine H_take (i := 2) rfl (by kernel_rfl) (by kernel_rfl) (by kernel_rfl) rfl pq_cut ⟨hE, hB1_0, hB5_7, trivial⟩ rfl (fun w hw => R_remN (m := (((b).getD 0 0).toNat * 256 + ((b).getD 1 0).toNat)) (j := 32) rfl rfl (by decide) (by (try simp only [List.length_take, List.length_drop, List.length_append, List.length_cons, List.length_nil, List.length_replicate, List.length_set, Nm.b_len, be2_len]); omega)) ?_
        refine H_take (i := 3) rfl (by kernel_rfl) (by kernel_rfl) (by kernel_rfl) rfl pq_cut ⟨hE, hB1_0, hB5_7, trivial⟩ rfl (fun w hw => R_move q3) ?_
        refine H_op2 (i := 4) (i2 := 9) (by kernel_rfl) rfl rfl rfl rfl ?_ ?_
        ·
          refine D_callE (R_callF Tryz.call74 rfl rfl) (c171 v (b) (146) (5) _ (h.ext hE) (by omega) (by omega) (by omega)) (fun v6_4 w6_4 e6_4 p6_4 => ?_)
          have o6_4 := p6_4
          have yv6_4_B1_0 : Value.ownBlock v6_4 ≠ some aB1_0 := fun hk => absurd (own_ge o6_4.1 hk) (Nat.not_le.2 hB1_0.lt)
          have yv6_4_B5_7 : Value.ownBlock v6_4 ≠ some aB5_7 := fun hk => absurd (own_ge o6_4.1 hk) (Nat.not_le.2 hB5_7.lt)
          replace o6_4 := o6_4.low hE.size
          replace o6_4 := Ow.lev (lo' := w.heap.size) o6_4 (fun _ _ _ => trivial)
          replace hE := hE.trans e6_4
          replace hB1_0 := hB1_0.ext e6_4
          replace hB5_7 := hB5_7.ext e6_4
          refine ⟨⟨hE, hB1_0, hB5_7, trivial⟩, ?_⟩
          refine H_op2 (i := 5) (i2 := 9) (by kernel_rfl) rfl rfl rfl rfl ?_ ?_
          ·
            refine D_call (R_callF Tryz.call75 rfl rfl) (c172s ((recN m ((nmsAt (b) (2) (18))))) (((((b).getD 0 0).toNat * 256 + ((b).getD 1 0).toNat) % 32)) (32) v6_4 ((nmsAt (b) (146) (5))) _ _ rfl (by omega) (by omega) (by rw [nmsAt_len, dep32 _ (by omega)]) (o6_4.ls.lev fun _ _ _ => trivial)) (fun w6_5 e6_5 => ?_)
            replace hE := hE.trans e6_5
            replace hB1_0 := hB1_0.ext e6_5
            replace hB5_7 := hB5_7.ext e6_5
            replace o6_4 := o6_4.ext e6_5
            refine ⟨⟨hE, hB1_0, hB5_7, trivial⟩, ?_⟩
            refine H_take (i := 6) rfl (by kernel_rfl) (by kernel_rfl) (by kernel_rfl) rfl pq_cut ⟨hE, hB1_0, hB5_7, trivial⟩ rfl (fun w hw => R_move rfl) ?_
            refine H_take (i := 7) rfl (by kernel_rfl) (by kernel_rfl) (by kernel_rfl) rfl pq_cut ⟨hE, hB1_0, hB5_7, trivial⟩ rfl (fun w hw => R_extract rfl rfl) ?_
            refine H_take (i := 8) rfl (by kernel_rfl) (by kernel_rfl) (by kernel_rfl) rfl pq_cut ⟨hE, hB1_0, hB5_7, trivial⟩ rfl (fun w hw => R_extract rfl rfl) ?_
            refine H_op (i := 9) (by kernel_rfl) rfl rfl (D_alloc (c := (Nm.zero).l) Tryz.zeroValue29 rfl (fun aB6_9 w6_9 e6_9 gB6_9 hB6_9 => ?_))
            have lB6_9 := Nat.le_trans hE.size gB6_9
            have nB1_0B6_9 := hB1_0.ne gB6_9
            have nB5_7B6_9 := hB5_7.ne gB6_9
            have yv6_4_B6_9 : Value.ownBlock v6_4 ≠ some aB6_9 := fun hk => absurd (own_lt o6_4.1 hk) (Nat.not_lt.2 gB6_9)
            replace hE := hE.trans e6_9
            replace hB1_0 := hB1_0.ext e6_9
            replace hB5_7 := hB5_7.ext e6_9
            replace o6_4 := o6_4.ext e6_9
            refine ⟨⟨hE, hB1_0, hB5_7, trivial⟩, ?_⟩
            have xo6_4 := yv6_4_B6_9
            have h0 := hB6_9
            refine H_op (i := 10) (by kernel_rfl) rfl rfl (D_storeA Tryz.sizeOf29 hB6_9 rfl rfl rfl rfl rfl (l' := ((cmp (32) (recN m ((nmsAt (b) (2) (18)))) (((((b).getD 0 0).toNat * 256 + ((b).getD 1 0).toNat) % 32)) (32) ((nmsAt (b) (146) (5))))).l) rfl (fun w6_10 k6_10 hB6_9 => ?_))
            have f6_10 := Fb.kp k6_10 (Nat.le_trans (Nat.le_refl _) lB6_9) (Blk.notB h0 rfl)
            replace hE := hE.kp k6_10 lB6_9
            replace hB1_0 := hB1_0.kp k6_10 nB1_0B6_9
            replace hB5_7 := hB5_7.kp k6_10 nB5_7B6_9
            replace o6_4 := o6_4.kp k6_10 xo6_4 f6_10
            refine ⟨⟨hE, hB1_0, hB5_7, trivial⟩, ?_⟩
            refine H_take (i := 11) rfl (by kernel_rfl) (by kernel_rfl) (by kernel_rfl) rfl pq_cut ⟨hE, hB1_0, hB5_7, trivial⟩ rfl (fun w hw => R_assign rfl) ?_
            refine H_done (by kernel_rfl) ?_
            exact ⟨rfl, _, rfl, _, _, q1, q3, q4, q9, rfl, hE, hB1_0, hB5_7, hB6_9, lB6_9, nB1_0B6_9, nB5_7B6_9, yv6_4_B1_0, yv6_4_B5_7, yv6_4_B6_9⟩
          ·
            refine D_alloc (c := (Nm.zero).l) Tryz.zeroValue29 rfl (fun aB6_9 w6_9 e6_9 gB6_9 hB6_9 => ?_)
            have lB6_9 := Nat.le_trans hE.size gB6_9
            have nB1_0B6_9 := hB1_0.ne gB6_9
            have nB5_7B6_9 := hB5_7.ne gB6_9
            have yv6_4_B6_9 : Value.ownBlock v6_4 ≠ some aB6_9 := fun hk => absurd (own_lt o6_4.1 hk) (Nat.not_lt.2 gB6_9)
            replace hE := hE.trans e6_9
            replace hB1_0 := hB1_0.ext e6_9
            replace hB5_7 := hB5_7.ext e6_9
            replace o6_4 := o6_4.ext e6_9
            refine ⟨⟨hE, hB1_0, hB5_7, trivial⟩, ?_⟩
            refine H_op (i := 5) (by kernel_rfl) rfl rfl (D_call (R_callF Tryz.call75 rfl rfl) (c172s ((recN m ((nmsAt (b) (2) (18))))) (((((b).getD 0 0).toNat * 256 + ((b).getD 1 0).toNat) % 32)) (32) v6_4 ((nmsAt (b) (146) (5))) _ _ rfl (by omega) (by omega) (by rw [nmsAt_len, dep32 _ (by omega)]) (o6_4.ls.lev fun _ _ _ => trivial)) (fun w6_5 e6_5 => ?_))
            replace hE := hE.trans e6_5
            replace hB1_0 := hB1_0.ext e6_5
            replace hB5_7 := hB5_7.ext e6_5
            replace hB6_9 := hB6_9.ext e6_5
            replace o6_4 := o6_4.ext e6_5
            refine ⟨⟨hE, hB1_0, hB5_7, trivial⟩, ?_⟩
            refine H_take (i := 6) rfl (by kernel_rfl) (by kernel_rfl) (by kernel_rfl) rfl pq_cut ⟨hE, hB1_0, hB5_7, trivial⟩ rfl (fun w hw => R_move rfl) ?_
            refine H_take (i := 7) rfl (by kernel_rfl) (by kernel_rfl) (by kernel_rfl) rfl pq_cut ⟨hE, hB1_0, hB5_7, trivial⟩ rfl (fun w hw => R_extract rfl rfl) ?_
            refine H_take (i := 8) rfl (by kernel_rfl) (by kernel_rfl) (by kernel_rfl) rfl pq_cut ⟨hE, hB1_0, hB5_7, trivial⟩ rfl (fun w hw => R_extract rfl rfl) ?_
            have xo6_4 := yv6_4_B6_9
            have h0 := hB6_9
            refine H_op (i := 10) (by kernel_rfl) rfl rfl (D_storeA Tryz.sizeOf29 hB6_9 rfl rfl rfl rfl rfl (l' := ((cmp (32) (recN m ((nmsAt (b) (2) (18)))) (((((b).getD 0 0).toNat * 256 + ((b).getD 1 0).toNat) % 32)) (32) ((nmsAt (b) (146) (5))))).l) rfl (fun w6_10 k6_10 hB6_9 => ?_))
            have f6_10 := Fb.kp k6_10 (Nat.le_trans (Nat.le_refl _) lB6_9) (Blk.notB h0 rfl)
            replace hE := hE.kp k6_10 lB6_9
            replace hB1_0 := hB1_0.kp k6_10 nB1_0B6_9
            replace hB5_7 := hB5_7.kp k6_10 nB5_7B6_9
            replace o6_4 := o6_4.kp k6_10 xo6_4 f6_10
            refine ⟨⟨hE, hB1_0, hB5_7, trivial⟩, ?_⟩
            refine H_take (i := 11) rfl (by kernel_rfl) (by kernel_rfl) (by kernel_rfl) rfl pq_cut ⟨hE, hB1_0, hB5_7, trivial⟩ rfl (fun w hw => R_assign rfl) ?_
            refine H_done (by kernel_rfl) ?_
            exact ⟨rfl, _, rfl, _, _, q1, q3, q4, q9, rfl, hE, hB1_0, hB5_7, hB6_9, lB6_9, nB1_0B6_9, nB5_7B6_9, yv6_4_B1_0, yv6_4_B5_7, yv6_4_B6_9⟩
        ·
          refine D_alloc (c := (Nm.zero).l) Tryz.zeroValue29 rfl (fun aB6_9 w6_9 e6_9 gB6_9 hB6_9 => ?_)
          have lB6_9 := Nat.le_trans hE.size gB6_9
          have nB1_0B6_9 := hB1_0.ne gB6_9
          have nB5_7B6_9 := hB5_7.ne gB6_9
          replace hE := hE.trans e6_9
          replace hB1_0 := hB1_0.ext e6_9
          replace hB5_7 := hB5_7.ext e6_9
          refine ⟨⟨hE, hB1_0, hB5_7, trivial⟩, ?_⟩
          refine H_op (i := 4) (by kernel_rfl) rfl rfl (D_callE (R_callF Tryz.call74 rfl rfl) (c171 v (b) (146) (5) _ (h.ext hE) (by omega) (by omega) (by omega)) (fun v6_4 w6_4 e6_4 p6_4 => ?_))
          have o6_4 := p6_4
          have yv6_4_B1_0 : Value.ownBlock v6_4 ≠ some aB1_0 := fun hk => absurd (own_ge o6_4.1 hk) (Nat.not_le.2 hB1_0.lt)
          have yv6_4_B5_7 : Value.ownBlock v6_4 ≠ some aB5_7 := fun hk => absurd (own_ge o6_4.1 hk) (Nat.not_le.2 hB5_7.lt)
          have yv6_4_B6_9 : Value.ownBlock v6_4 ≠ some aB6_9 := fun hk => absurd (own_ge o6_4.1 hk) (Nat.not_le.2 hB6_9.lt)
          replace o6_4 := o6_4.low hE.size
          replace o6_4 := Ow.lev (lo' := w.heap.size) o6_4 (fun _ _ _ => trivial)
          replace hE := hE.trans e6_4
          replace hB1_0 := hB1_0.ext e6_4
          replace hB5_7 := hB5_7.ext e6_4
          replace hB6_9 := hB6_9.ext e6_4
          refine ⟨⟨hE, hB1_0, hB5_7, trivial⟩, ?_⟩
          refine H_op (i := 5) (by kernel_rfl) rfl rfl (D_call (R_callF Tryz.call75 rfl rfl) (c172s ((recN m ((nmsAt (b) (2) (18))))) (((((b).getD 0 0).toNat * 256 + ((b).getD 1 0).toNat) % 32)) (32) v6_4 ((nmsAt (b) (146) (5))) _ _ rfl (by omega) (by omega) (by rw [nmsAt_len, dep32 _ (by omega)]) (o6_4.ls.lev fun _ _ _ => trivial)) (fun w6_5 e6_5 => ?_))
          replace hE := hE.trans e6_5
          replace hB1_0 := hB1_0.ext e6_5
          replace hB5_7 := hB5_7.ext e6_5
          replace hB6_9 := hB6_9.ext e6_5
          replace o6_4 := o6_4.ext e6_5
          refine ⟨⟨hE, hB1_0, hB5_7, trivial⟩, ?_⟩
          refine H_take (i := 6) rfl (by kernel_rfl) (by kernel_rfl) (by kernel_rfl) rfl pq_cut ⟨hE, hB1_0, hB5_7, trivial⟩ rfl (fun w hw => R_move rfl) ?_
          refine H_take (i := 7) rfl (by kernel_rfl) (by kernel_rfl) (by kernel_rfl) rfl pq_cut ⟨hE, hB1_0, hB5_7, trivial⟩ rfl (fun w hw => R_extract rfl rfl) ?_
          refine H_take (i := 8) rfl (by kernel_rfl) (by kernel_rfl) (by kernel_rfl) rfl pq_cut ⟨hE, hB1_0, hB5_7, trivial⟩ rfl (fun w hw => R_extract rfl rfl) ?_
          have xo6_4 := yv6_4_B6_9
          have h0 := hB6_9
          refine H_op (i := 10) (by kernel_rfl) rfl rfl (D_storeA Tryz.sizeOf29 hB6_9 rfl rfl rfl rfl rfl (l' := ((cmp (32) (recN m ((nmsAt (b) (2) (18)))) (((((b).getD 0 0).toNat * 256 + ((b).getD 1 0).toNat) % 32)) (32) ((nmsAt (b) (146) (5))))).l) rfl (fun w6_10 k6_10 hB6_9 => ?_))
          have f6_10 := Fb.kp k6_10 (Nat.le_trans (Nat.le_refl _) lB6_9) (Blk.notB h0 rfl)
          replace hE := hE.kp k6_10 lB6_9
          replace hB1_0 := hB1_0.kp k6_10 nB1_0B6_9
          replace hB5_7 := hB5_7.kp k6_10 nB5_7B6_9
          replace o6_4 := o6_4.kp k6_10 xo6_4 f6_10
          refine ⟨⟨hE, hB1_0, hB5_7, trivial⟩, ?_⟩
          refine H_take (i := 11) rfl (by kernel_rfl) (by kernel_rfl) (by kernel_rfl) rfl pq_cut ⟨hE, hB1_0, hB5_7, trivial⟩ rfl (fun w hw => R_assign rfl) ?_
          refine H_done (by kernel_rfl) ?_
          exact ⟨rfl, _, rfl, _, _, q1, q3, q4, q9, rfl, hE, hB1_0, hB5_7, hB6_9, lB6_9, nB1_0B6_9, nB5_7B6_9, yv6_4_B1_0, yv6_4_B5_7, yv6_4_B6_9⟩
      rintro f6 w6c ⟨v6_4, aB6_9, q1, q3, q4, q9, q12, hE, hB1_0, hB5_7, hB6_9, lB6_9, nB1_0B6_9, nB5_7B6_9, yv6_4_B1_0, yv6_4_B5_7, yv6_4_B6_9⟩
      refine T_tn ?_
      refine wp_seq ?_
      refine wp_seq ?_
      refine W_region ?_
      refine L (D_v (R_move q1) ?_)
      refine L (D_v (R_cast (v' := .bool false) (R_eqlI rfl rfl) rfl) ?_)
      refine S_nil ?_
      refine T_tn ?_
      refine W_iff rfl ?_
      refine wp_skip ?_
      refine T_tn ?_
      refine wp_seq ?_
      refine W_cut (R := fun g W => ∃ (v8_2 : Value) (aB8_7 : Nat), (g 3 = v) ∧ (g 4 = .pointer (some ⟨aB1_0, 0, none⟩)) ∧ (g 9 = i64 (((((b).getD 0 0).toNat * 256 + ((b).getD 1 0).toNat) : Nat) : Int)) ∧ (g 14 = .pointer (some ⟨aB8_7, 0, none⟩)) ∧ Ext w W ∧ Blk W aB1_0 (pub).l 29 ∧ Blk W aB6_9 ((cmp (32) (recN m ((nmsAt (b) (2) (18)))) (((((b).getD 0 0).toNat * 256 + ((b).getD 1 0).toNat) % 32)) (32) ((nmsAt (b) (146) (5))))).l 29 ∧ Blk W aB8_7 ((recN (cmp (32) (recN m ((nmsAt (b) (2) (18)))) (((((b).getD 0 0).toNat * 256 + ((b).getD 1 0).toNat) % 32)) (32) ((nmsAt (b) (146) (5)))) ((nmsAt (b) (186) (18))))).l 29 ∧ w.heap.size ≤ aB8_7 ∧ aB1_0 ≠ aB8_7 ∧ aB6_9 ≠ aB8_7 ∧ Value.ownBlock v8_2 ≠ some aB1_0 ∧ Value.ownBlock v8_2 ≠ some aB6_9 ∧ Value.ownBlock v8_2 ≠ some aB8_7) ?_ ?_
      ·
        refine W_held (fun W => Ext w W ∧ Blk W aB1_0 (pub).l 29 ∧ Blk W aB6_9 ((cmp (32) (recN m ((nmsAt (b) (2) (18)))) (((((b).getD 0 0).toNat * 256 + ((b).getD 1 0).toNat) % 32)) (32) ((nmsAt (b) (146) (5))))).l 29 ∧ True) mixed (fun w8_99 e8_99 => ?_)
        replace hE := hE.trans e8_99
        replace hB1_0 := hB1_0.ext e8_99
        replace hB6_9 := hB6_9.ext e8_99
        refine H_take (i := 0) rfl (by kernel_rfl) (by kernel_rfl) (by kernel_rfl) rfl pq_cut ⟨hE, hB1_0, hB6_9, trivial⟩ rfl (fun w hw => R_loadA (c := ((cmp (32) (recN m ((nmsAt (b) (2) (18)))) (((((b).getD 0 0).toNat * 256 + ((b).getD 1 0).toNat) % 32)) (32) ((nmsAt (b) (146) (5))))).l) Tryz.isAgg29 Tryz.sizeOf29 hw.2.2.1 q12 rfl rfl) ?_
        refine H_take (i := 1) rfl (by kernel_rfl) (by kernel_rfl) (by kernel_rfl) rfl pq_cut ⟨hE, hB1_0, hB6_9, trivial⟩ rfl (fun w hw => R_move q3) ?_
        refine H_op2 (i := 2) (i2 := 7) (by kernel_rfl) rfl rfl rfl rfl ?_ ?_
        ·
          refine D_callE (R_callF Tryz.call74 rfl rfl) (c171 v (b) (186) (18) _ (h.ext hE) (by omega) (by omega) (by omega)) (fun v8_2 w8_2 e8_2 p8_2 => ?_)
          have o8_2 := p8_2
          have yv8_2_B1_0 : Value.ownBlock v8_2 ≠ some aB1_0 := fun hk => absurd (own_ge o8_2.1 hk) (Nat.not_le.2 hB1_0.lt)
          have yv8_2_B6_9 : Value.ownBlock v8_2 ≠ some aB6_9 := fun hk => absurd (own_ge o8_2.1 hk) (Nat.not_le.2 hB6_9.lt)
          replace o8_2 := o8_2.low hE.size
          replace o8_2 := Ow.lev (lo' := w.heap.size) o8_2 (fun _ _ _ => trivial)
          replace hE := hE.trans e8_2
          replace hB1_0 := hB1_0.ext e8_2
          replace hB6_9 := hB6_9.ext e8_2
          refine ⟨⟨hE, hB1_0, hB6_9, trivial⟩, ?_⟩
          refine H_op2 (i := 3) (i2 := 7) (by kernel_rfl) rfl rfl rfl rfl ?_ ?_
          ·
            refine D_call (R_callF Tryz.call73 rfl rfl) (c170 ((cmp (32) (recN m ((nmsAt (b) (2) (18)))) (((((b).getD 0 0).toNat * 256 + ((b).getD 1 0).toNat) % 32)) (32) ((nmsAt (b) (146) (5))))) v8_2 ((nmsAt (b) (186) (18))) _ (by first | rfl | omega | exact nmsAt_len _ _ _) (o8_2.ls.lev fun _ _ _ => trivial)) (fun w8_3 e8_3 => ?_)
            replace hE := hE.trans e8_3
            replace hB1_0 := hB1_0.ext e8_3
            replace hB6_9 := hB6_9.ext e8_3
            replace o8_2 := o8_2.ext e8_3
            refine ⟨⟨hE, hB1_0, hB6_9, trivial⟩, ?_⟩
            refine H_take (i := 4) rfl (by kernel_rfl) (by kernel_rfl) (by kernel_rfl) rfl pq_cut ⟨hE, hB1_0, hB6_9, trivial⟩ rfl (fun w hw => R_move rfl) ?_
            refine H_take (i := 5) rfl (by kernel_rfl) (by kernel_rfl) (by kernel_rfl) rfl pq_cut ⟨hE, hB1_0, hB6_9, trivial⟩ rfl (fun w hw => R_extract rfl rfl) ?_
            refine H_take (i := 6) rfl (by kernel_rfl) (by kernel_rfl) (by kernel_rfl) rfl pq_cut ⟨hE, hB1_0, hB6_9, trivial⟩ rfl (fun w hw => R_extract rfl rfl) ?_
            refine H_op (i := 7) (by kernel_rfl) rfl rfl (D_alloc (c := (Nm.zero).l) Tryz.zeroValue29 rfl (fun aB8_7 w8_7 e8_7 gB8_7 hB8_7 => ?_))
            have lB8_7 := Nat.le_trans hE.size gB8_7
            have nB1_0B8_7 := hB1_0.ne gB8_7
            have nB6_9B8_7 := hB6_9.ne gB8_7
            have yv8_2_B8_7 : Value.ownBlock v8_2 ≠ some aB8_7 := fun hk => absurd (own_lt o8_2.1 hk) (Nat.not_lt.2 gB8_7)
            replace hE := hE.trans e8_7
            replace hB1_0 := hB1_0.ext e8_7
            replace hB6_9 := hB6_9.ext e8_7
            replace o8_2 := o8_2.ext e8_7
            refine ⟨⟨hE, hB1_0, hB6_9, trivial⟩, ?_⟩
            have xo8_2 := yv8_2_B8_7
            have h0 := hB8_7
            refine H_op (i := 8) (by kernel_rfl) rfl rfl (D_storeA Tryz.sizeOf29 hB8_7 rfl rfl rfl rfl rfl (l' := ((recN (cmp (32) (recN m ((nmsAt (b) (2) (18)))) (((((b).getD 0 0).toNat * 256 + ((b).getD 1 0).toNat) % 32)) (32) ((nmsAt (b) (146) (5)))) ((nmsAt (b) (186) (18))))).l) rfl (fun w8_8 k8_8 hB8_7 => ?_))
            have f8_8 := Fb.kp k8_8 (Nat.le_trans (Nat.le_refl _) lB8_7) (Blk.notB h0 rfl)
            replace hE := hE.kp k8_8 lB8_7
            replace hB1_0 := hB1_0.kp k8_8 nB1_0B8_7
            replace hB6_9 := hB6_9.kp k8_8 nB6_9B8_7
            replace o8_2 := o8_2.kp k8_8 xo8_2 f8_8
            refine ⟨⟨hE, hB1_0, hB6_9, trivial⟩, ?_⟩
            refine H_take (i := 9) rfl (by kernel_rfl) (by kernel_rfl) (by kernel_rfl) rfl pq_cut ⟨hE, hB1_0, hB6_9, trivial⟩ rfl (fun w hw => R_assign rfl) ?_
            refine H_done (by kernel_rfl) ?_
            exact ⟨rfl, _, rfl, _, _, q3, q4, q9, rfl, hE, hB1_0, hB6_9, hB8_7, lB8_7, nB1_0B8_7, nB6_9B8_7, yv8_2_B1_0, yv8_2_B6_9, yv8_2_B8_7⟩
          ·
            refine D_alloc (c := (Nm.zero).l) Tryz.zeroValue29 rfl (fun aB8_7 w8_7 e8_7 gB8_7 hB8_7 => ?_)
            have lB8_7 := Nat.le_trans hE.size gB8_7
            have nB1_0B8_7 := hB1_0.ne gB8_7
            have nB6_9B8_7 := hB6_9.ne gB8_7
            have yv8_2_B8_7 : Value.ownBlock v8_2 ≠ some aB8_7 := fun hk => absurd (own_lt o8_2.1 hk) (Nat.not_lt.2 gB8_7)
            replace hE := hE.trans e8_7
            replace hB1_0 := hB1_0.ext e8_7
            replace hB6_9 := hB6_9.ext e8_7
            replace o8_2 := o8_2.ext e8_7
            refine ⟨⟨hE, hB1_0, hB6_9, trivial⟩, ?_⟩
            refine H_op (i := 3) (by kernel_rfl) rfl rfl (D_call (R_callF Tryz.call73 rfl rfl) (c170 ((cmp (32) (recN m ((nmsAt (b) (2) (18)))) (((((b).getD 0 0).toNat * 256 + ((b).getD 1 0).toNat) % 32)) (32) ((nmsAt (b) (146) (5))))) v8_2 ((nmsAt (b) (186) (18))) _ (by first | rfl | omega | exact nmsAt_len _ _ _) (o8_2.ls.lev fun _ _ _ => trivial)) (fun w8_3 e8_3 => ?_))
            replace hE := hE.trans e8_3
            replace hB1_0 := hB1_0.ext e8_3
            replace hB6_9 := hB6_9.ext e8_3
            replace hB8_7 := hB8_7.ext e8_3
            replace o8_2 := o8_2.ext e8_3
            refine ⟨⟨hE, hB1_0, hB6_9, trivial⟩, ?_⟩
            refine H_take (i := 4) rfl (by kernel_rfl) (by kernel_rfl) (by kernel_rfl) rfl pq_cut ⟨hE, hB1_0, hB6_9, trivial⟩ rfl (fun w hw => R_move rfl) ?_
            refine H_take (i := 5) rfl (by kernel_rfl) (by kernel_rfl) (by kernel_rfl) rfl pq_cut ⟨hE, hB1_0, hB6_9, trivial⟩ rfl (fun w hw => R_extract rfl rfl) ?_
            refine H_take (i := 6) rfl (by kernel_rfl) (by kernel_rfl) (by kernel_rfl) rfl pq_cut ⟨hE, hB1_0, hB6_9, trivial⟩ rfl (fun w hw => R_extract rfl rfl) ?_
            have xo8_2 := yv8_2_B8_7
            have h0 := hB8_7
            refine H_op (i := 8) (by kernel_rfl) rfl rfl (D_storeA Tryz.sizeOf29 hB8_7 rfl rfl rfl rfl rfl (l' := ((recN (cmp (32) (recN m ((nmsAt (b) (2) (18)))) (((((b).getD 0 0).toNat * 256 + ((b).getD 1 0).toNat) % 32)) (32) ((nmsAt (b) (146) (5)))) ((nmsAt (b) (186) (18))))).l) rfl (fun w8_8 k8_8 hB8_7 => ?_))
            have f8_8 := Fb.kp k8_8 (Nat.le_trans (Nat.le_refl _) lB8_7) (Blk.notB h0 rfl)
            replace hE := hE.kp k8_8 lB8_7
            replace hB1_0 := hB1_0.kp k8_8 nB1_0B8_7
            replace hB6_9 := hB6_9.kp k8_8 nB6_9B8_7
            replace o8_2 := o8_2.kp k8_8 xo8_2 f8_8
            refine ⟨⟨hE, hB1_0, hB6_9, trivial⟩, ?_⟩
            refine H_take (i := 9) rfl (by kernel_rfl) (by kernel_rfl) (by kernel_rfl) rfl pq_cut ⟨hE, hB1_0, hB6_9, trivial⟩ rfl (fun w hw => R_assign rfl) ?_
            refine H_done (by kernel_rfl) ?_
            exact ⟨rfl, _, rfl, _, _, q3, q4, q9, rfl, hE, hB1_0, hB6_9, hB8_7, lB8_7, nB1_0B8_7, nB6_9B8_7, yv8_2_B1_0, yv8_2_B6_9, yv8_2_B8_7⟩
        ·
          refine D_alloc (c := (Nm.zero).l) Tryz.zeroValue29 rfl (fun aB8_7 w8_7 e8_7 gB8_7 hB8_7 => ?_)
          have lB8_7 := Nat.le_trans hE.size gB8_7
          have nB1_0B8_7 := hB1_0.ne gB8_7
          have nB6_9B8_7 := hB6_9.ne gB8_7
          replace hE := hE.trans e8_7
          replace hB1_0 := hB1_0.ext e8_7
          replace hB6_9 := hB6_9.ext e8_7
          refine ⟨⟨hE, hB1_0, hB6_9, trivial⟩, ?_⟩
          refine H_op (i := 2) (by kernel_rfl) rfl rfl (D_callE (R_callF Tryz.call74 rfl rfl) (c171 v (b) (186) (18) _ (h.ext hE) (by omega) (by omega) (by omega)) (fun v8_2 w8_2 e8_2 p8_2 => ?_))
          have o8_2 := p8_2
          have yv8_2_B1_0 : Value.ownBlock v8_2 ≠ some aB1_0 := fun hk => absurd (own_ge o8_2.1 hk) (Nat.not_le.2 hB1_0.lt)
          have yv8_2_B6_9 : Value.ownBlock v8_2 ≠ some aB6_9 := fun hk => absurd (own_ge o8_2.1 hk) (Nat.not_le.2 hB6_9.lt)
          have yv8_2_B8_7 : Value.ownBlock v8_2 ≠ some aB8_7 := fun hk => absurd (own_ge o8_2.1 hk) (Nat.not_le.2 hB8_7.lt)
          replace o8_2 := o8_2.low hE.size
          replace o8_2 := Ow.lev (lo' := w.heap.size) o8_2 (fun _ _ _ => trivial)
          replace hE := hE.trans e8_2
          replace hB1_0 := hB1_0.ext e8_2
          replace hB6_9 := hB6_9.ext e8_2
          replace hB8_7 := hB8_7.ext e8_2
          refine ⟨⟨hE, hB1_0, hB6_9, trivial⟩, ?_⟩
          refine H_op (i := 3) (by kernel_rfl) rfl rfl (D_call (R_callF Tryz.call73 rfl rfl) (c170 ((cmp (32) (recN m ((nmsAt (b) (2) (18)))) (((((b).getD 0 0).toNat * 256 + ((b).getD 1 0).toNat) % 32)) (32) ((nmsAt (b) (146) (5))))) v8_2 ((nmsAt (b) (186) (18))) _ (by first | rfl | omega | exact nmsAt_len _ _ _) (o8_2.ls.lev fun _ _ _ => trivial)) (fun w8_3 e8_3 => ?_))
          replace hE := hE.trans e8_3
          replace hB1_0 := hB1_0.ext e8_3
          replace hB6_9 := hB6_9.ext e8_3
          replace hB8_7 := hB8_7.ext e8_3
          replace o8_2 := o8_2.ext e8_3
          refine ⟨⟨hE, hB1_0, hB6_9, trivial⟩, ?_⟩
          refine H_take (i := 4) rfl (by kernel_rfl) (by kernel_rfl) (by kernel_rfl) rfl pq_cut ⟨hE, hB1_0, hB6_9, trivial⟩ rfl (fun w hw => R_move rfl) ?_
          refine H_take (i := 5) rfl (by kernel_rfl) (by kernel_rfl) (by kernel_rfl) rfl pq_cut ⟨hE, hB1_0, hB6_9, trivial⟩ rfl (fun w hw => R_extract rfl rfl) ?_
          refine H_take (i := 6) rfl (by kernel_rfl) (by kernel_rfl) (by kernel_rfl) rfl pq_cut ⟨hE, hB1_0, hB6_9, trivial⟩ rfl (fun w hw => R_extract rfl rfl) ?_
          have xo8_2 := yv8_2_B8_7
          have h0 := hB8_7
          refine H_op (i := 8) (by kernel_rfl) rfl rfl (D_storeA Tryz.sizeOf29 hB8_7 rfl rfl rfl rfl rfl (l' := ((recN (cmp (32) (recN m ((nmsAt (b) (2) (18)))) (((((b).getD 0 0).toNat * 256 + ((b).getD 1 0).toNat) % 32)) (32) ((nmsAt (b) (146) (5)))) ((nmsAt (b) (186) (18))))).l) rfl (fun w8_8 k8_8 hB8_7 => ?_))
          have f8_8 := Fb.kp k8_8 (Nat.le_trans (Nat.le_refl _) lB8_7) (Blk.notB h0 rfl)
          replace hE := hE.kp k8_8 lB8_7
          replace hB1_0 := hB1_0.kp k8_8 nB1_0B8_7
          replace hB6_9 := hB6_9.kp k8_8 nB6_9B8_7
          replace o8_2 := o8_2.kp k8_8 xo8_2 f8_8
          refine ⟨⟨hE, hB1_0, hB6_9, trivial⟩, ?_⟩
          refine H_take (i := 9) rfl (by kernel_rfl) (by kernel_rfl) (by kernel_rfl) rfl pq_cut ⟨hE, hB1_0, hB6_9, trivial⟩ rfl (fun w hw => R_assign rfl) ?_
          refine H_done (by kernel_rfl) ?_
          exact ⟨rfl, _, rfl, _, _, q3, q4, q9, rfl, hE, hB1_0, hB6_9, hB8_7, lB8_7, nB1_0B8_7, nB6_9B8_7, yv8_2_B1_0, yv8_2_B6_9, yv8_2_B8_7⟩
      rintro f8 w8c ⟨v8_2, aB8_7, q3, q4, q9, q14, hE, hB1_0, hB6_9, hB8_7, lB8_7, nB1_0B8_7, nB6_9B8_7, yv8_2_B1_0, yv8_2_B6_9, yv8_2_B8_7⟩
      refine T_tn ?_
      refine wp_seq ?_
      refine W_cut (R := fun g W => ∃ (v9_4 : Value) (aB9_9 : Nat), (g 4 = .pointer (some ⟨aB1_0, 0, none⟩)) ∧ (g 16 = .pointer (some ⟨aB9_9, 0, none⟩)) ∧ Ext w W ∧ Blk W aB1_0 (pub).l 29 ∧ Blk W aB8_7 ((recN (cmp (32) (recN m ((nmsAt (b) (2) (18)))) (((((b).getD 0 0).toNat * 256 + ((b).getD 1 0).toNat) % 32)) (32) ((nmsAt (b) (146) (5)))) ((nmsAt (b) (186) (18))))).l 29 ∧ Blk W aB9_9 ((cmp (32) (recN (cmp (32) (recN m ((nmsAt (b) (2) (18)))) (((((b).getD 0 0).toNat * 256 + ((b).getD 1 0).toNat) % 32)) (32) ((nmsAt (b) (146) (5)))) ((nmsAt (b) (186) (18)))) (((((b).getD 0 0).toNat * 256 + ((b).getD 1 0).toNat) / 32)) (32) ((nmsAt (b) (330) (5))))).l 29 ∧ w.heap.size ≤ aB9_9 ∧ aB1_0 ≠ aB9_9 ∧ aB8_7 ≠ aB9_9 ∧ Value.ownBlock v9_4 ≠ some aB1_0 ∧ Value.ownBlock v9_4 ≠ some aB8_7 ∧ Value.ownBlock v9_4 ≠ some aB9_9) ?_ ?_
      ·
        refine W_held (fun W => Ext w W ∧ Blk W aB1_0 (pub).l 29 ∧ Blk W aB8_7 ((recN (cmp (32) (recN m ((nmsAt (b) (2) (18)))) (((((b).getD 0 0).toNat * 256 + ((b).getD 1 0).toNat) % 32)) (32) ((nmsAt (b) (146) (5)))) ((nmsAt (b) (186) (18))))).l 29 ∧ True) mixed (fun w9_99 e9_99 => ?_)
        replace hE := hE.trans e9_99
        replace hB1_0 := hB1_0.ext e9_99
        replace hB8_7 := hB8_7.ext e9_99
        refine H_take (i := 0) rfl (by kernel_rfl) (by kernel_rfl) (by kernel_rfl) rfl pq_cut ⟨hE, hB1_0, hB8_7, trivial⟩ rfl (fun w hw => R_loadA (c := ((recN (cmp (32) (recN m ((nmsAt (b) (2) (18)))) (((((b).getD 0 0).toNat * 256 + ((b).getD 1 0).toNat) % 32)) (32) ((nmsAt (b) (146) (5)))) ((nmsAt (b) (186) (18))))).l) Tryz.isAgg29 Tryz.sizeOf29 hw.2.2.1 q14 rfl rfl) ?_
        refine H_take (i := 1) rfl (by kernel_rfl) (by kernel_rfl) (by kernel_rfl) rfl pq_cut ⟨hE, hB1_0, hB8_7, trivial⟩ rfl (fun w hw => R_move q9) ?_
        refine H_take (i := 2) rfl (by kernel_rfl) (by kernel_rfl) (by kernel_rfl) rfl pq_cut ⟨hE, hB1_0, hB8_7, trivial⟩ rfl (fun w hw => R_quoN (m := (((b).getD 0 0).toNat * 256 + ((b).getD 1 0).toNat)) (j := 32) rfl rfl (by decide) (by (try simp only [List.length_take, List.length_drop, List.length_append, List.length_cons, List.length_nil, List.length_replicate, List.length_set, Nm.b_len, be2_len]); omega)) ?_
        refine H_take (i := 3) rfl (by kernel_rfl) (by kernel_rfl) (by kernel_rfl) rfl pq_cut ⟨hE, hB1_0, hB8_7, trivial⟩ rfl (fun w hw => R_move q3) ?_
        refine H_op2 (i := 4) (i2 := 9) (by kernel_rfl) rfl rfl rfl rfl ?_ ?_
        ·
          refine D_callE (R_callF Tryz.call74 rfl rfl) (c171 v (b) (330) (5) _ (h.ext hE) (by omega) (by omega) (by omega)) (fun v9_4 w9_4 e9_4 p9_4 => ?_)
          have o9_4 := p9_4
          have yv9_4_B1_0 : Value.ownBlock v9_4 ≠ some aB1_0 := fun hk => absurd (own_ge o9_4.1 hk) (Nat.not_le.2 hB1_0.lt)
          have yv9_4_B8_7 : Value.ownBlock v9_4 ≠ some aB8_7 := fun hk => absurd (own_ge o9_4.1 hk) (Nat.not_le.2 hB8_7.lt)
          replace o9_4 := o9_4.low hE.size
          replace o9_4 := Ow.lev (lo' := w.heap.size) o9_4 (fun _ _ _ => trivial)
          replace hE := hE.trans e9_4
          replace hB1_0 := hB1_0.ext e9_4
          replace hB8_7 := hB8_7.ext e9_4
          refine ⟨⟨hE, hB1_0, hB8_7, trivial⟩, ?_⟩
          refine H_op2 (i := 5) (i2 := 9) (by kernel_rfl) rfl rfl rfl rfl ?_ ?_
          ·
            refine D_call (R_callF Tryz.call75 rfl rfl) (c172s ((recN (cmp (32) (recN m ((nmsAt (b) (2) (18)))) (((((b).getD 0 0).toNat * 256 + ((b).getD 1 0).toNat) % 32)) (32) ((nmsAt (b) (146) (5)))) ((nmsAt (b) (186) (18))))) (((((b).getD 0 0).toNat * 256 + ((b).getD 1 0).toNat) / 32)) (32) v9_4 ((nmsAt (b) (330) (5))) _ _ rfl (by omega) (by omega) (by rw [nmsAt_len, dep32 _ (by omega)]) (o9_4.ls.lev fun _ _ _ => trivial)) (fun w9_5 e9_5 => ?_)
            replace hE := hE.trans e9_5
            replace hB1_0 := hB1_0.ext e9_5
            replace hB8_7 := hB8_7.ext e9_5
            replace o9_4 := o9_4.ext e9_5
            refine ⟨⟨hE, hB1_0, hB8_7, trivial⟩, ?_⟩
            refine H_take (i := 6) rfl (by kernel_rfl) (by kernel_rfl) (by kernel_rfl) rfl pq_cut ⟨hE, hB1_0, hB8_7, trivial⟩ rfl (fun w hw => R_move rfl) ?_
            refine H_take (i := 7) rfl (by kernel_rfl) (by kernel_rfl) (by kernel_rfl) rfl pq_cut ⟨hE, hB1_0, hB8_7, trivial⟩ rfl (fun w hw => R_extract rfl rfl) ?_
            refine H_take (i := 8) rfl (by kernel_rfl) (by kernel_rfl) (by kernel_rfl) rfl pq_cut ⟨hE, hB1_0, hB8_7, trivial⟩ rfl (fun w hw => R_extract rfl rfl) ?_
            refine H_op (i := 9) (by kernel_rfl) rfl rfl (D_alloc (c := (Nm.zero).l) Tryz.zeroValue29 rfl (fun aB9_9 w9_9 e9_9 gB9_9 hB9_9 => ?_))
            have lB9_9 := Nat.le_trans hE.size gB9_9
            have nB1_0B9_9 := hB1_0.ne gB9_9
            have nB8_7B9_9 := hB8_7.ne gB9_9
            have yv9_4_B9_9 : Value.ownBlock v9_4 ≠ some aB9_9 := fun hk => absurd (own_lt o9_4.1 hk) (Nat.not_lt.2 gB9_9)
            replace hE := hE.trans e9_9
            replace hB1_0 := hB1_0.ext e9_9
            replace hB8_7 := hB8_7.ext e9_9
            replace o9_4 := o9_4.ext e9_9
            refine ⟨⟨hE, hB1_0, hB8_7, trivial⟩, ?_⟩
            have xo9_4 := yv9_4_B9_9
            have h0 := hB9_9
            refine H_op (i := 10) (by kernel_rfl) rfl rfl (D_storeA Tryz.sizeOf29 hB9_9 rfl rfl rfl rfl rfl (l' := ((cmp (32) (recN (cmp (32) (recN m ((nmsAt (b) (2) (18)))) (((((b).getD 0 0).toNat * 256 + ((b).getD 1 0).toNat) % 32)) (32) ((nmsAt (b) (146) (5)))) ((nmsAt (b) (186) (18)))) (((((b).getD 0 0).toNat * 256 + ((b).getD 1 0).toNat) / 32)) (32) ((nmsAt (b) (330) (5))))).l) rfl (fun w9_10 k9_10 hB9_9 => ?_))
            have f9_10 := Fb.kp k9_10 (Nat.le_trans (Nat.le_refl _) lB9_9) (Blk.notB h0 rfl)
            replace hE := hE.kp k9_10 lB9_9
            replace hB1_0 := hB1_0.kp k9_10 nB1_0B9_9
            replace hB8_7 := hB8_7.kp k9_10 nB8_7B9_9
            replace o9_4 := o9_4.kp k9_10 xo9_4 f9_10
            refine ⟨⟨hE, hB1_0, hB8_7, trivial⟩, ?_⟩
            refine H_take (i := 11) rfl (by kernel_rfl) (by kernel_rfl) (by kernel_rfl) rfl pq_cut ⟨hE, hB1_0, hB8_7, trivial⟩ rfl (fun w hw => R_assign rfl) ?_
            refine H_done (by kernel_rfl) ?_
            exact ⟨rfl, _, rfl, _, _, q4, rfl, hE, hB1_0, hB8_7, hB9_9, lB9_9, nB1_0B9_9, nB8_7B9_9, yv9_4_B1_0, yv9_4_B8_7, yv9_4_B9_9⟩
          ·
            refine D_alloc (c := (Nm.zero).l) Tryz.zeroValue29 rfl (fun aB9_9 w9_9 e9_9 gB9_9 hB9_9 => ?_)
            have lB9_9 := Nat.le_trans hE.size gB9_9
            have nB1_0B9_9 := hB1_0.ne gB9_9
            have nB8_7B9_9 := hB8_7.ne gB9_9
            have yv9_4_B9_9 : Value.ownBlock v9_4 ≠ some aB9_9 := fun hk => absurd (own_lt o9_4.1 hk) (Nat.not_lt.2 gB9_9)
            replace hE := hE.trans e9_9
            replace hB1_0 := hB1_0.ext e9_9
            replace hB8_7 := hB8_7.ext e9_9
            replace o9_4 := o9_4.ext e9_9
            refine ⟨⟨hE, hB1_0, hB8_7, trivial⟩, ?_⟩
            refine H_op (i := 5) (by kernel_rfl) rfl rfl (D_call (R_callF Tryz.call75 rfl rfl) (c172s ((recN (cmp (32) (recN m ((nmsAt (b) (2) (18)))) (((((b).getD 0 0).toNat * 256 + ((b).getD 1 0).toNat) % 32)) (32) ((nmsAt (b) (146) (5)))) ((nmsAt (b) (186) (18))))) (((((b).getD 0 0).toNat * 256 + ((b).getD 1 0).toNat) / 32)) (32) v9_4 ((nmsAt (b) (330) (5))) _ _ rfl (by omega) (by omega) (by rw [nmsAt_len, dep32 _ (by omega)]) (o9_4.ls.lev fun _ _ _ => trivial)) (fun w9_5 e9_5 => ?_))
            replace hE := hE.trans e9_5
            replace hB1_0 := hB1_0.ext e9_5
            replace hB8_7 := hB8_7.ext e9_5
            replace hB9_9 := hB9_9.ext e9_5
            replace o9_4 := o9_4.ext e9_5
            refine ⟨⟨hE, hB1_0, hB8_7, trivial⟩, ?_⟩
            refine H_take (i := 6) rfl (by kernel_rfl) (by kernel_rfl) (by kernel_rfl) rfl pq_cut ⟨hE, hB1_0, hB8_7, trivial⟩ rfl (fun w hw => R_move rfl) ?_
            refine H_take (i := 7) rfl (by kernel_rfl) (by kernel_rfl) (by kernel_rfl) rfl pq_cut ⟨hE, hB1_0, hB8_7, trivial⟩ rfl (fun w hw => R_extract rfl rfl) ?_
            refine H_take (i := 8) rfl (by kernel_rfl) (by kernel_rfl) (by kernel_rfl) rfl pq_cut ⟨hE, hB1_0, hB8_7, trivial⟩ rfl (fun w hw => R_extract rfl rfl) ?_
            have xo9_4 := yv9_4_B9_9
            have h0 := hB9_9
            refine H_op (i := 10) (by kernel_rfl) rfl rfl (D_storeA Tryz.sizeOf29 hB9_9 rfl rfl rfl rfl rfl (l' := ((cmp (32) (recN (cmp (32) (recN m ((nmsAt (b) (2) (18)))) (((((b).getD 0 0).toNat * 256 + ((b).getD 1 0).toNat) % 32)) (32) ((nmsAt (b) (146) (5)))) ((nmsAt (b) (186) (18)))) (((((b).getD 0 0).toNat * 256 + ((b).getD 1 0).toNat) / 32)) (32) ((nmsAt (b) (330) (5))))).l) rfl (fun w9_10 k9_10 hB9_9 => ?_))
            have f9_10 := Fb.kp k9_10 (Nat.le_trans (Nat.le_refl _) lB9_9) (Blk.notB h0 rfl)
            replace hE := hE.kp k9_10 lB9_9
            replace hB1_0 := hB1_0.kp k9_10 nB1_0B9_9
            replace hB8_7 := hB8_7.kp k9_10 nB8_7B9_9
            replace o9_4 := o9_4.kp k9_10 xo9_4 f9_10
            refine ⟨⟨hE, hB1_0, hB8_7, trivial⟩, ?_⟩
            refine H_take (i := 11) rfl (by kernel_rfl) (by kernel_rfl) (by kernel_rfl) rfl pq_cut ⟨hE, hB1_0, hB8_7, trivial⟩ rfl (fun w hw => R_assign rfl) ?_
            refine H_done (by kernel_rfl) ?_
            exact ⟨rfl, _, rfl, _, _, q4, rfl, hE, hB1_0, hB8_7, hB9_9, lB9_9, nB1_0B9_9, nB8_7B9_9, yv9_4_B1_0, yv9_4_B8_7, yv9_4_B9_9⟩
        ·
          refine D_alloc (c := (Nm.zero).l) Tryz.zeroValue29 rfl (fun aB9_9 w9_9 e9_9 gB9_9 hB9_9 => ?_)
          have lB9_9 := Nat.le_trans hE.size gB9_9
          have nB1_0B9_9 := hB1_0.ne gB9_9
          have nB8_7B9_9 := hB8_7.ne gB9_9
          replace hE := hE.trans e9_9
          replace hB1_0 := hB1_0.ext e9_9
          replace hB8_7 := hB8_7.ext e9_9
          refine ⟨⟨hE, hB1_0, hB8_7, trivial⟩, ?_⟩
          refine H_op (i := 4) (by kernel_rfl) rfl rfl (D_callE (R_callF Tryz.call74 rfl rfl) (c171 v (b) (330) (5) _ (h.ext hE) (by omega) (by omega) (by omega)) (fun v9_4 w9_4 e9_4 p9_4 => ?_))
          have o9_4 := p9_4
          have yv9_4_B1_0 : Value.ownBlock v9_4 ≠ some aB1_0 := fun hk => absurd (own_ge o9_4.1 hk) (Nat.not_le.2 hB1_0.lt)
          have yv9_4_B8_7 : Value.ownBlock v9_4 ≠ some aB8_7 := fun hk => absurd (own_ge o9_4.1 hk) (Nat.not_le.2 hB8_7.lt)
          have yv9_4_B9_9 : Value.ownBlock v9_4 ≠ some aB9_9 := fun hk => absurd (own_ge o9_4.1 hk) (Nat.not_le.2 hB9_9.lt)
          replace o9_4 := o9_4.low hE.size
          replace o9_4 := Ow.lev (lo' := w.heap.size) o9_4 (fun _ _ _ => trivial)
          replace hE := hE.trans e9_4
          replace hB1_0 := hB1_0.ext e9_4
          replace hB8_7 := hB8_7.ext e9_4
          replace hB9_9 := hB9_9.ext e9_4
          refine ⟨⟨hE, hB1_0, hB8_7, trivial⟩, ?_⟩
          refine H_op (i := 5) (by kernel_rfl) rfl rfl (D_call (R_callF Tryz.call75 rfl rfl) (c172s ((recN (cmp (32) (recN m ((nmsAt (b) (2) (18)))) (((((b).getD 0 0).toNat * 256 + ((b).getD 1 0).toNat) % 32)) (32) ((nmsAt (b) (146) (5)))) ((nmsAt (b) (186) (18))))) (((((b).getD 0 0).toNat * 256 + ((b).getD 1 0).toNat) / 32)) (32) v9_4 ((nmsAt (b) (330) (5))) _ _ rfl (by omega) (by omega) (by rw [nmsAt_len, dep32 _ (by omega)]) (o9_4.ls.lev fun _ _ _ => trivial)) (fun w9_5 e9_5 => ?_))
          replace hE := hE.trans e9_5
          replace hB1_0 := hB1_0.ext e9_5
          replace hB8_7 := hB8_7.ext e9_5
          replace hB9_9 := hB9_9.ext e9_5
          replace o9_4 := o9_4.ext e9_5
          refine ⟨⟨hE, hB1_0, hB8_7, trivial⟩, ?_⟩
          refine H_take (i := 6) rfl (by kernel_rfl) (by kernel_rfl) (by kernel_rfl) rfl pq_cut ⟨hE, hB1_0, hB8_7, trivial⟩ rfl (fun w hw => R_move rfl) ?_
          refine H_take (i := 7) rfl (by kernel_rfl) (by kernel_rfl) (by kernel_rfl) rfl pq_cut ⟨hE, hB1_0, hB8_7, trivial⟩ rfl (fun w hw => R_extract rfl rfl) ?_
          refine H_take (i := 8) rfl (by kernel_rfl) (by kernel_rfl) (by kernel_rfl) rfl pq_cut ⟨hE, hB1_0, hB8_7, trivial⟩ rfl (fun w hw => R_extract rfl rfl) ?_
          have xo9_4 := yv9_4_B9_9
          have h0 := hB9_9
          refine H_op (i := 10) (by kernel_rfl) rfl rfl (D_storeA Tryz.sizeOf29 hB9_9 rfl rfl rfl rfl rfl (l' := ((cmp (32) (recN (cmp (32) (recN m ((nmsAt (b) (2) (18)))) (((((b).getD 0 0).toNat * 256 + ((b).getD 1 0).toNat) % 32)) (32) ((nmsAt (b) (146) (5)))) ((nmsAt (b) (186) (18)))) (((((b).getD 0 0).toNat * 256 + ((b).getD 1 0).toNat) / 32)) (32) ((nmsAt (b) (330) (5))))).l) rfl (fun w9_10 k9_10 hB9_9 => ?_))
          have f9_10 := Fb.kp k9_10 (Nat.le_trans (Nat.le_refl _) lB9_9) (Blk.notB h0 rfl)
          replace hE := hE.kp k9_10 lB9_9
          replace hB1_0 := hB1_0.kp k9_10 nB1_0B9_9
          replace hB8_7 := hB8_7.kp k9_10 nB8_7B9_9
          replace o9_4 := o9_4.kp k9_10 xo9_4 f9_10
          refine ⟨⟨hE, hB1_0, hB8_7, trivial⟩, ?_⟩
          refine H_take (i := 11) rfl (by kernel_rfl) (by kernel_rfl) (by kernel_rfl) rfl pq_cut ⟨hE, hB1_0, hB8_7, trivial⟩ rfl (fun w hw => R_assign rfl) ?_
          refine H_done (by kernel_rfl) ?_
          exact ⟨rfl, _, rfl, _, _, q4, rfl, hE, hB1_0, hB8_7, hB9_9, lB9_9, nB1_0B9_9, nB8_7B9_9, yv9_4_B1_0, yv9_4_B8_7, yv9_4_B9_9⟩
      rintro f9 w9c ⟨v9_4, aB9_9, q4, q16, hE, hB1_0, hB8_7, hB9_9, lB9_9, nB1_0B9_9, nB8_7B9_9, yv9_4_B1_0, yv9_4_B8_7, yv9_4_B9_9⟩
      refine T_tn ?_
      refine wp_seq ?_
      refine W_region ?_
      refine L (D_v (R_loadA (c := ((cmp (32) (recN (cmp (32) (recN m ((nmsAt (b) (2) (18)))) (((((b).getD 0 0).toNat * 256 + ((b).getD 1 0).toNat) % 32)) (32) ((nmsAt (b) (146) (5)))) ((nmsAt (b) (186) (18)))) (((((b).getD 0 0).toNat * 256 + ((b).getD 1 0).toNat) / 32)) (32) ((nmsAt (b) (330) (5))))).l) Tryz.isAgg29 Tryz.sizeOf29 hB9_9 q16 rfl rfl) ?_)
      refine L (D_v (R_loadA (c := (pub).l) Tryz.isAgg29 Tryz.sizeOf29 hB1_0 q4 rfl rfl) ?_)
      refine L (D_v (R_eqlA Tryz.eqGuardType29 (eq24 ((cmp (32) (recN (cmp (32) (recN m ((nmsAt (b) (2) (18)))) (((((b).getD 0 0).toNat * 256 + ((b).getD 1 0).toNat) % 32)) (32) ((nmsAt (b) (146) (5)))) ((nmsAt (b) (186) (18)))) (((((b).getD 0 0).toNat * 256 + ((b).getD 1 0).toNat) / 32)) (32) ((nmsAt (b) (330) (5))))) (pub) _) rfl rfl) ?_)
      refine L (D_v (R_assign rfl) ?_)
      refine S_nil ?_
      refine T_tn ?_
      refine wp_ret ?_
      refine ret1 (v := .bool _) rfl rfl ⟨congrArg (fun b => Ending.returned (Value.bool b)) ?_, hE⟩
      unfold ver; rw [decide_eq_true hv, decide_eq_true hw]; rfl
set_option maxRecDepth 4000 in
set_option maxHeartbeats 1000000 in
theorem c75 (key : Nm) (x : Sg) (w : World) (hs : x.okf w.heap.size w) : Calls Tryz.prog 18 [key.v, x.v].toArray w (Ret w (.bool (verP key x.p))) := by
  refine enter Tryz.func18 Tryz.ntmps18 rfl rfl ?_
  have hE := Ext.refl w
  refine wp_seq ?_
  refine W_region ?_
  refine L (D_box (c := (key).l) (rfl) (fun aB1_0 w1_0 e1_0 gB1_0 hB1_0 => ?_))
  have lB1_0 := Nat.le_trans hE.size gB1_0
  replace hE := hE.trans e1_0
  refine L (D_box (c := (x).l) (rfl) (fun aB1_1 w1_1 e1_1 gB1_1 hB1_1 => ?_))
  have lB1_1 := Nat.le_trans hE.size gB1_1
  have nB1_0B1_1 := hB1_0.ne gB1_1
  replace hE := hE.trans e1_1
  replace hB1_0 := hB1_0.ext e1_1
  refine L (D_v (R_assign rfl) ?_)
  refine S_nil ?_
  refine T_tn ?_
  refine wp_seq ?_
  refine W_draw mixed (by kernel_rfl) ?_
  refine Q_v (fun w hw => R_fieldAddr Tryz.runUnderlying34 rfl Tryz.sizeOf31 rfl) ?_
  refine Q_v (fun w hw => R_loadA (c := ((x).vote).l) Tryz.isAgg31 Tryz.sizeOf31 (hB1_1.ext hw) rfl rfl rfl) ?_
  refine Q_call (fun w hw => R_callF Tryz.call38 rfl rfl) (fun w hw => c26 ((x).vote) _ ) ?_
  refine Q_v (fun w hw => R_move rfl) ?_
  refine Q_g1 rfl rfl (fun hb w hw => R_loadA (c := (key).l) Tryz.isAgg29 Tryz.sizeOf29 (hB1_0.ext hw) rfl rfl rfl) ?_
  refine Q_g1 rfl rfl (fun hb w hw => R_fieldAddr Tryz.runUnderlying34 rfl Tryz.sizeOf31 rfl) ?_
  refine Q_g1 rfl rfl (fun hb w hw => R_loadA (c := ((x).vote).l) Tryz.isAgg31 Tryz.sizeOf31 (hB1_1.ext hw) (cgE hb) rfl rfl) ?_
  refine Q_gc1 rfl rfl (fun hb w hw => R_callF Tryz.call40 (mapv1 (cgE hb)) rfl) (fun hb w hw => c36 ((x).vote) _) ?_
  refine Q_g1 rfl rfl (fun hb w hw => R_fieldAddr Tryz.runUnderlying34 rfl Tryz.sizeOf32 rfl) ?_
  refine Q_g1 rfl rfl (fun hb w hw => R_load Tryz.isAgg32 (hB1_1.ext hw) (cgE hb) rfl) ?_
  refine Q_gc1 rfl rfl (fun hb w hw => R_callF Tryz.call39 (mapv4 (cgE hb) rfl (cgE hb) (cgE hb)) rfl) (fun hb w hw => c105 (key) ((nameV (x).vote)) (.slice (x).A (x).n (x).c) ((x).sig) _ (hs.fb (Fb.ext (hE.trans hw))).bs) ?_
  refine Q_v (fun w hw => R_pickA rfl rfl rfl) ?_
  refine Q_v (fun w hw => R_assign rfl) ?_
  refine Q_nil (fun w2_99 e2_99 => ?_)
  replace hE := hE.trans e2_99
  replace hB1_0 := hB1_0.ext e2_99
  replace hB1_1 := hB1_1.ext e2_99
  refine T_tn ?_
  refine wp_ret ?_
  refine ret1 (v := .bool _) rfl rfl ⟨congrArg (fun b => Ending.returned (Value.bool b)) ?_, hE⟩
  unfold verP Sg.p; rfl
set_option maxRecDepth 4000 in
set_option maxHeartbeats 1000000 in
theorem c116 (key : Nm) (x : Sg) (w : World) (hs : x.okf w.heap.size w) : Calls Tryz.prog 19 [key.v, x.v].toArray w (Ret w (.bool (verP key x.p))) := by
  refine enter Tryz.func19 Tryz.ntmps19 rfl rfl ?_
  have hE := Ext.refl w
  refine wp_seq ?_
  refine W_region ?_
  refine L (D_box (c := (key).l) (rfl) (fun aB1_0 w1_0 e1_0 gB1_0 hB1_0 => ?_))
  have lB1_0 := Nat.le_trans hE.size gB1_0
  replace hE := hE.trans e1_0
  refine L (D_box (c := (x).l) (rfl) (fun aB1_1 w1_1 e1_1 gB1_1 hB1_1 => ?_))
  have lB1_1 := Nat.le_trans hE.size gB1_1
  have nB1_0B1_1 := hB1_0.ne gB1_1
  replace hE := hE.trans e1_1
  replace hB1_0 := hB1_0.ext e1_1
  refine L (D_v (R_assign rfl) ?_)
  refine S_nil ?_
  refine T_tn ?_
  refine wp_seq ?_
  refine W_draw mixed (by kernel_rfl) ?_
  refine Q_v (fun w hw => R_fieldAddr Tryz.runUnderlying34 rfl Tryz.sizeOf31 rfl) ?_
  refine Q_v (fun w hw => R_loadA (c := ((x).vote).l) Tryz.isAgg31 Tryz.sizeOf31 (hB1_1.ext hw) rfl rfl rfl) ?_
  refine Q_call (fun w hw => R_callF Tryz.call33 rfl rfl) (fun w hw => c27 ((x).vote) _ ) ?_
  refine Q_v (fun w hw => R_move rfl) ?_
  refine Q_g1 rfl rfl (fun hb w hw => R_loadA (c := (key).l) Tryz.isAgg29 Tryz.sizeOf29 (hB1_0.ext hw) rfl rfl rfl) ?_
  refine Q_g1 rfl rfl (fun hb w hw => R_fieldAddr Tryz.runUnderlying34 rfl Tryz.sizeOf31 rfl) ?_
  refine Q_g1 rfl rfl (fun hb w hw => R_loadA (c := ((x).vote).l) Tryz.isAgg31 Tryz.sizeOf31 (hB1_1.ext hw) (cgE hb) rfl rfl) ?_
  refine Q_gc1 rfl rfl (fun hb w hw => R_callF Tryz.call35 (mapv1 (cgE hb)) rfl) (fun hb w hw => c39 ((x).vote) _) ?_
  refine Q_g1 rfl rfl (fun hb w hw => R_fieldAddr Tryz.runUnderlying34 rfl Tryz.sizeOf32 rfl) ?_
  refine Q_g1 rfl rfl (fun hb w hw => R_load Tryz.isAgg32 (hB1_1.ext hw) (cgE hb) rfl) ?_
  refine Q_gc1 rfl rfl (fun hb w hw => R_callF Tryz.call41 (mapv4 (cgE hb) rfl (cgE hb) (cgE hb)) rfl) (fun hb w hw => c139 (key) ((nameV (x).vote)) (.slice (x).A (x).n (x).c) ((x).sig) _ _ rfl (hs.fb (Fb.ext (hE.trans hw))).bs) ?_
  refine Q_v (fun w hw => R_pickA rfl rfl rfl) ?_
  refine Q_v (fun w hw => R_assign rfl) ?_
  refine Q_nil (fun w2_99 e2_99 => ?_)
  replace hE := hE.trans e2_99
  replace hB1_0 := hB1_0.ext e2_99
  replace hB1_1 := hB1_1.ext e2_99
  refine T_tn ?_
  refine wp_ret ?_
  refine ret1 (v := .bool _) rfl rfl ⟨congrArg (fun b => Ending.returned (Value.bool b)) ?_, hE⟩
  unfold verP Sg.p; rfl
end Go.Proofs.YteeopgpgbdhmhaaGreat
namespace Go.Proofs.YteeopgpgbdhmhaaGreat
open Go.RowKit
set_option linter.unusedVariables false
set_option linter.unusedSimpArgs false
attribute [local irreducible] lessP ltB wpList wpO H wpQuiet wpStill Code.wp Exit.then Exit.inBlock bodyPost Code.rounds Calls valid sameKey lessV hless num between
set_option maxRecDepth 4000 in
set_option maxHeartbeats 2000000 in
theorem c95 {α : Type} {S : (Nat → α) → World → Prop} {gB n : Nat} {lf sf : Value} {lt : α → α → Bool} (hR : Srt Tryz.prog S gB n lf sf lt) (f : Nat → α) (p : Option Addr) (c : Nat) (w : World) (hG : S f w) (hsw : isSw (.slice p n c) sf) : Calls Tryz.prog 46 [.iface 23 (.slice p n c), lf].toArray w (RetS gB w fun w2 => ∃ f', S f' w2 ∧ Mv f f' 0 n ∧ srt lt f' 0 n) := by
  refine enter Tryz.func46 Tryz.ntmps46 rfl rfl ?_
  have hE := Chg.refl gB w
  have hnb := hR.nb
  have hlp := hR.lp
  have hsp := hR.sp
  have hX := Ext.refl w
  have hG0 := hG
  refine wp_seq ?_
  refine W_region ?_
  refine L (D_v (R_move rfl) ?_)
  refine L (D_valueOf rfl (fun aBV w1_1 e1_1 gBV hBV => ?_))
  have lBV := Nat.le_trans hE.size gBV
  have nGBV := Nat.ne_of_lt (Nat.lt_of_lt_of_le (hR.bound _ _ hG) gBV)
  replace hE := hE.trans e1_1
  replace hX := hX.trans e1_1
  replace hG := hR.ext _ _ _ hG e1_1
  refine L (D_alloc Tryz.zeroValue111 rfl (fun aB1_2 w1_2 e1_2 gB1_2 hB1_2 => ?_))
  have lB1_2 := Nat.le_trans hE.size gB1_2
  have nGB1_2 := Nat.ne_of_lt (Nat.lt_of_lt_of_le (hR.bound _ _ hG) gB1_2)
  have nBVB1_2 := hBV.ne gB1_2
  replace hE := hE.trans e1_2
  replace hX := hX.trans e1_2
  replace hG := hR.ext _ _ _ hG e1_2
  replace hBV := hBV.ext e1_2
  have h0 := hB1_2
  refine L (D_storeA Tryz.sizeOf111 hB1_2 rfl rfl rfl rfl rfl (l' := [typeHandle Tryz.prog 23, .pointer (some ⟨aBV, 0, none⟩), .int .u64 (151)]) rfl (fun w1_3 k1_3 hB1_2 => ?_))
  replace hE := hE.kpo k1_3 lB1_2
  replace hX := hX.kp k1_3 lB1_2
  replace hG := hR.ext _ _ _ hG0 hX
  replace hBV := hBV.kp k1_3 nBVB1_2
  refine S_nil ?_
  refine T_tn ?_
  refine wp_seq ?_
  refine W_region ?_
  refine L (D_v (R_move rfl) ?_)
  refine L (D_v (R_callX ext125 rfl rfl (hsw _)) ?_)
  refine L (D_v (R_assign rfl) ?_)
  refine S_nil ?_
  refine T_tn ?_
  refine W_region ?_
  refine L (D_v (R_move rfl) ?_)
  refine L (D_v (R_move rfl) ?_)
  refine L (D_v (R_buildS (vs := [(0, lf), (1, sf)]) (c := [lf, sf]) Tryz.runUnderlying117 places145 Tryz.zeroValue117 (mapp2 rfl rfl) (fill145 hlp hsp)) ?_)
  refine L (D_v (R_loadA (c := [typeHandle Tryz.prog 23, .pointer (some ⟨aBV, 0, none⟩), .int .u64 (151)]) Tryz.isAgg111 Tryz.sizeOf111 hB1_2 rfl rfl rfl) ?_)
  refine L (D_valueLen rfl hBV ?_)
  refine L (D_callS (R_callF Tryz.call83 rfl rfl) (c126 hR (f) _ hG) (fun w3_5 p3_5 => ?_))
  obtain ⟨e3_5, h3_5, hG, q3_5⟩ := p3_5
  replace hE := hE.chg e3_5
  replace hBV := hBV.chg e3_5 nGBV.symm
  replace hB1_2 := hB1_2.chg e3_5 nGB1_2.symm
  refine S_nil ?_
  refine ret0n rfl ⟨rfl, hE, ?_⟩
  exact ⟨_, hG, q3_5⟩
set_option maxRecDepth 4000 in
set_option maxHeartbeats 1000000 in
theorem c99 (u v : Value) (a b : List UInt8) (w : World) (ha : Bs w u a) (hb : Bs w v b) : Calls Tryz.prog 85 [u, v].toArray w (Ret w (i64 (Go.Lib.compareBytes a b))) := by
  refine enter Tryz.func85 Tryz.ntmps85 rfl rfl ?_
  have hE := Ext.refl w
  refine wp_seq ?_
  refine W_region ?_
  refine L (D_v (R_assign rfl) ?_)
  refine S_nil ?_
  refine T_tn ?_
  refine wp_seq ?_
  refine W_region ?_
  refine L (D_v (R_move rfl) ?_)
  refine L (D_v (R_move rfl) ?_)
  refine L (D_v (R_callX ext132 rfl rfl (run_compare (a := a) (b := b) (ha.ext hE) (hb.ext hE))) ?_)
  refine L (D_v (R_assign rfl) ?_)
  refine S_nil ?_
  refine T_tn ?_
  refine wp_ret ?_
  refine ret1 (v := .int _ _) rfl rfl ⟨?_, hE⟩
  rfl
set_option maxRecDepth 4000 in
set_option maxHeartbeats 1000000 in
theorem c61 (x y : Sg) (w : World) (hx : x.okf w.heap.size w) (hy : y.okf w.heap.size w) : Calls Tryz.prog 48 [x.v, y.v].toArray w (Ret w (.bool (lessP x.p y.p))) := by
  refine enter Tryz.func48 Tryz.ntmps48 rfl rfl ?_
  have hE := Ext.refl w
  refine wp_seq ?_
  refine W_region ?_
  refine L (D_box (c := (x).l) (rfl) (fun aB1_0 w1_0 e1_0 gB1_0 hB1_0 => ?_))
  have lB1_0 := Nat.le_trans hE.size gB1_0
  replace hE := hE.trans e1_0
  refine L (D_box (c := (y).l) (rfl) (fun aB1_1 w1_1 e1_1 gB1_1 hB1_1 => ?_))
  have lB1_1 := Nat.le_trans hE.size gB1_1
  have nB1_0B1_1 := hB1_0.ne gB1_1
  replace hE := hE.trans e1_1
  replace hB1_0 := hB1_0.ext e1_1
  refine L (D_v (R_assign rfl) ?_)
  refine S_nil ?_
  refine T_tn ?_
  refine wp_seq ?_
  refine wp_seq ?_
  refine W_region ?_
  refine L (D_v (R_fieldAddr Tryz.runUnderlying34 rfl Tryz.sizeOf31 rfl) ?_)
  refine L (D_v (R_loadA (c := ((x).vote).l) Tryz.isAgg31 Tryz.sizeOf31 hB1_0 rfl rfl rfl) ?_)
  refine L (D_v (R_fieldAddr Tryz.runUnderlying34 rfl Tryz.sizeOf31 rfl) ?_)
  refine L (D_v (R_loadA (c := ((y).vote).l) Tryz.isAgg31 Tryz.sizeOf31 hB1_1 rfl rfl rfl) ?_)
  refine L (D_v (R_neqA Tryz.eqGuardType31 (eq26 ((x).vote) ((y).vote) _) rfl rfl) ?_)
  refine S_nil ?_
  refine T_tn ?_
  refine W_if rfl (fun c1 => ?_) (fun c1 => ?_)
  ·
    have hne : (x).p.1 ≠ (y).p.1 := (show ¬ (x).vote = (y).vote by simpa using c1)
    refine wp_seq ?_
    refine W_region ?_
    refine L (D_v (R_fieldAddr Tryz.runUnderlying34 rfl Tryz.sizeOf31 rfl) ?_)
    refine L (D_v (R_loadA (c := ((x).vote).l) Tryz.isAgg31 Tryz.sizeOf31 hB1_0 rfl rfl rfl) ?_)
    refine L (D_v (R_fieldAddr Tryz.runUnderlying34 rfl Tryz.sizeOf31 rfl) ?_)
    refine L (D_v (R_loadA (c := ((y).vote).l) Tryz.isAgg31 Tryz.sizeOf31 hB1_1 rfl rfl rfl) ?_)
    refine L (D_call (R_callF Tryz.call28 rfl rfl) (c33 ((x).vote) ((y).vote) _ ) (fun w3_4 e3_4 => ?_))
    replace hE := hE.trans e3_4
    replace hB1_0 := hB1_0.ext e3_4
    replace hB1_1 := hB1_1.ext e3_4
    refine L (D_v (R_assign rfl) ?_)
    refine S_nil ?_
    refine T_tn ?_
    refine wp_ret ?_
    refine T_tr ?_
    refine ret1 (v := .bool _) rfl rfl ⟨?_, hE⟩
    rw [lessP_ne hne]; rfl
  ·
    have hne : (x).p.1 = (y).p.1 := (show (x).vote = (y).vote by simpa using c1)
    refine wp_skip ?_
    refine T_tn ?_
    refine wp_seq ?_
    refine W_region ?_
    refine L (D_v (R_fieldAddr Tryz.runUnderlying34 rfl Tryz.sizeOf32 rfl) ?_)
    refine L (D_v (R_load Tryz.isAgg32 hB1_0 rfl rfl) ?_)
    refine L (D_v (R_fieldAddr Tryz.runUnderlying34 rfl Tryz.sizeOf32 rfl) ?_)
    refine L (D_v (R_load Tryz.isAgg32 hB1_1 rfl rfl) ?_)
    refine L (D_call (R_callF Tryz.call85 rfl rfl) (c99 (.slice (x).A (x).n (x).c) (.slice (y).A (y).n (y).c) ((x).sig) ((y).sig) _ (hx.fb (Fb.ext hE)).bs (hy.fb (Fb.ext hE)).bs) (fun w3_4 e3_4 => ?_))
    replace hE := hE.trans e3_4
    replace hB1_0 := hB1_0.ext e3_4
    replace hB1_1 := hB1_1.ext e3_4
    refine L (D_v (R_lssI rfl rfl) ?_)
    refine L (D_v (R_assign rfl) ?_)
    refine S_nil ?_
    refine T_tn ?_
    refine wp_ret ?_
    refine ret1 (v := .bool _) rfl rfl ⟨?_, hE⟩
    rw [lessP_eq hne]; exact congrArg (fun z => Ending.returned (Value.bool z)) (ltB_cmp _ _)
set_option maxRecDepth 4000 in
set_option maxHeartbeats 2000000 in
theorem c96 (lo : Nat) (i j aB0 : Nat) (v : Value) (xs : List Sg) (w : World) (hlo : lo ≤ w.heap.size) (hT : Blk w aB0 [v] 23) (h : Ls cS lo w v xs) (hi : i < xs.length) (hj : j < xs.length) : Calls Tryz.prog 47 [i64 ((i : Nat) : Int), i64 ((j : Nat) : Int), .pointer (some ⟨aB0, 0, none⟩)].toArray w (Ret w (.bool (lessP (xs.getD i Sg.zero).p (xs.getD j Sg.zero).p))) := by
  refine enter Tryz.func47 Tryz.ntmps47 rfl rfl ?_
  have hE := Ext.refl w
  refine wp_seq ?_
  refine W_region ?_
  refine L (D_v (R_assign rfl) ?_)
  refine S_nil ?_
  refine T_tn ?_
  refine wp_seq ?_
  refine W_draw mixed (by kernel_rfl) ?_
  refine Q_v (fun w hw => R_load Tryz.isAgg23 (hT.ext hw) rfl rfl) ?_
  refine Q_v (fun w hw => R_move rfl) ?_
  refine Q_v (fun w hw => R_elAddr (i := i) Tryz.underlying23 Tryz.sizeOf34 rfl rfl (h.ext (hE.trans hw)).1 (by (try simp only [List.length_take, List.length_drop, List.length_append, List.length_cons, List.length_nil, List.length_replicate, List.length_set, Nm.b_len, be2_len]); omega)) ?_
  refine Q_v (fun w hw => R_ldL (C := cS) (i := i) (y := ((xs).getD (i) Sg.zero)) Tryz.isAgg34 Tryz.sizeOf34 rfl (h.ext (hE.trans hw)) (getD_some (d := Sg.zero) (by (try simp only [List.length_take, List.length_drop, List.length_append, List.length_cons, List.length_nil, List.length_replicate, List.length_set, Nm.b_len, be2_len]); omega))) ?_
  refine Q_v (fun w hw => R_load Tryz.isAgg23 (hT.ext hw) rfl rfl) ?_
  refine Q_v (fun w hw => R_move rfl) ?_
  refine Q_v (fun w hw => R_elAddr (i := j) Tryz.underlying23 Tryz.sizeOf34 rfl rfl (h.ext (hE.trans hw)).1 (by (try simp only [List.length_take, List.length_drop, List.length_append, List.length_cons, List.length_nil, List.length_replicate, List.length_set, Nm.b_len, be2_len]); omega)) ?_
  refine Q_v (fun w hw => R_ldL (C := cS) (i := j) (y := ((xs).getD (j) Sg.zero)) Tryz.isAgg34 Tryz.sizeOf34 rfl (h.ext (hE.trans hw)) (getD_some (d := Sg.zero) (by (try simp only [List.length_take, List.length_drop, List.length_append, List.length_cons, List.length_nil, List.length_replicate, List.length_set, Nm.b_len, be2_len]); omega))) ?_
  refine Q_call (fun w hw => R_callF Tryz.call48 rfl rfl) (fun w hw => c61 (((xs).getD (i) Sg.zero)) (((xs).getD (j) Sg.zero)) _ (((h.get (getD_some (d := Sg.zero) (by (try simp only [List.length_take, List.length_drop, List.length_append, List.length_cons, List.length_nil, List.length_replicate, List.length_set, Nm.b_len, be2_len]); omega))).fb (Fb.ext (hE.trans hw))).up (Nat.le_trans hlo (hE.trans hw).size)) (((h.get (getD_some (d := Sg.zero) (by (try simp only [List.length_take, List.length_drop, List.length_append, List.length_cons, List.length_nil, List.length_replicate, List.length_set, Nm.b_len, be2_len]); omega))).fb (Fb.ext (hE.trans hw))).up (Nat.le_trans hlo (hE.trans hw).size))) ?_
  refine Q_v (fun w hw => R_assign rfl) ?_
  refine Q_nil (fun w2_99 e2_99 => ?_)
  replace hE := hE.trans e2_99
  replace hT := hT.ext e2_99
  refine T_tn ?_
  refine wp_ret ?_
  refine ret1 (v := .bool _) rfl rfl ⟨congrArg (fun b => Ending.returned (Value.bool b)) ?_, hE⟩
  exact rfl
end Go.Proofs.YteeopgpgbdhmhaaGreat
namespace Go.Proofs.YteeopgpgbdhmhaaGreat
open Go.RowKit Go.Lib
set_option linter.unusedVariables false
set_option linter.unusedSimpArgs false
def srtL (xs : List Sg) : Prop := ∀ (i j : Nat) (x y : Sg), i < j → xs[i]? = some x → xs[j]? = some y → lessP y.p x.p = false
def ltS (a b : Sg) : Bool := lessP a.p b.p
theorem ordS : Ordd ltS := sto_P.ord.pull Sg.p
def Sorted46 (lo lk : Nat) (v : Value) (xs : List Sg) (w w' : World) : Prop :=
  w.grownBy w' v.ownBlock ∧ Fb lo w w' ∧ ∃ xs', Ow cS lo lk w' v xs' ∧ xs'.length = xs.length ∧ (∀ p, p ∈ xs'.map Sg.p ↔ p ∈ xs.map Sg.p) ∧ srtL xs'
theorem lsf_getD {n i : Nat} (f : Nat → Sg) (h : i < n) : (lsf n f).getD i Sg.zero = f i := by rw [List.getD_eq_getElem?_getD, lsf_at f h]; rfl
theorem lsf_of (xs : List Sg) : lsf xs.length (fun k => xs.getD k Sg.zero) = xs := by
  apply List.ext_getElem?
  intro k
  by_cases hk : k < xs.length
  · rw [lsf_at _ hk, List.getD_eq_getElem?_getD, List.getElem?_eq_getElem hk]; rfl
  · rw [List.getElem?_eq_none (by rw [lsf_len]; omega), List.getElem?_eq_none (by omega)]
theorem swp_same {α : Type} (f : Nat → α) (i : Nat) : swp f i i = f := by
  funext k; unfold swp; split
  · rename_i h; rw [h]
  · rfl
theorem cv_less {g n cap aT lo : Nat} {tl : List Value} {f : Nat → Sg} {W : World} (h : RowS g n cap aT lo tl f W) (hc : n ≤ cap) (hm : cap ≤ 9223372036854775807) (hlo : lo ≤ g) {i j : Nat} (hi : i < n) (hj : j < n) :
    CV Tryz.prog (.func (.func 47) #[] #[.pointer (some ⟨aT, 0, none⟩)]) [i64 (i : Int), i64 (j : Int)] W (fun v W' => v = .bool (ltS (f i) (f j)) ∧ Ext W W') := by
  refine ⟨47, _, rfl, .inl ⟨Tryz.call47 _ _, ?_⟩⟩
  have := c96 lo i j aT (.slice (some ⟨g, 0, none⟩) n cap) (lsf n f) W (Nat.le_trans hlo (Nat.le_of_lt h.row.lt)) h.cell (h.ls hc hm) (by rw [lsf_len]; exact hi) (by rw [lsf_len]; exact hj)
  refine this.mono ?_
  rintro e W' ⟨rfl, hE⟩
  rw [lsf_getD f hi, lsf_getD f hj]
  exact ⟨_, rfl, rfl, hE⟩
theorem srt_many {g n cap aT lo : Nat} (tl : List Value) (hc : n ≤ cap) (hm : cap ≤ 9223372036854775807) (hlo : lo ≤ g) (hn : n ≤ 1000000) (hk : 2 ≤ n) :
    Srt Tryz.prog (RowS g n cap aT lo tl) g n (.func (.func 47) #[] #[.pointer (some ⟨aT, 0, none⟩)]) (.func (.func 112) #[] #[.slice (some ⟨g, 0, none⟩) n cap, typeHandle Tryz.prog 34]) ltS where
  ord := ordS
  lp := rfl
  sp := rfl
  nb := hn
  bound := fun f W h => h.row.lt
  ext := fun f W W' h e => h.ext e
  less := fun f W i j h hi hj => cv_less h hc hm hlo hi hj
  swap := fun f W i j h hi hj => by
    obtain ⟨W', h1, h2, h3⟩ := run_swapS h hlo hi hj
    refine ⟨112, _, rfl, .inr ⟨.tuple #[], W', ?_, rfl, h2, h3⟩⟩
    have e : ([i64 (i : Int), i64 (j : Int)].toArray ++ #[Value.slice (some ⟨g, 0, none⟩) n cap, typeHandle Tryz.prog 34]) = #[.int .i64 (i : Int), .int .i64 (j : Int), .slice (some ⟨g, 0, none⟩) n cap, typeHandle Tryz.prog 34] := rfl
    rw [e, ext154, h1]
    rfl
theorem srt_one {g cap aT lo : Nat} (tl : List Value) (hc : 1 ≤ cap) (hm : cap ≤ 9223372036854775807) (hlo : lo ≤ g) :
    Srt Tryz.prog (RowS g 1 cap aT lo tl) g 1 (.func (.func 47) #[] #[.pointer (some ⟨aT, 0, none⟩)]) (.func (.func 105) #[] #[]) ltS where
  ord := ordS
  lp := rfl
  sp := rfl
  nb := by decide
  bound := fun f W h => h.row.lt
  ext := fun f W W' h e => h.ext e
  less := fun f W i j h hi hj => cv_less h hc hm hlo hi hj
  swap := fun f W i j h hi hj => by
    obtain rfl : i = 0 := by omega
    obtain rfl : j = 0 := by omega
    refine ⟨105, _, rfl, .inr ⟨.tuple #[], W, ?_, rfl, Chg.refl _ _, by rw [swp_same]; exact h⟩⟩
    rw [ext147]
    rfl
theorem srt_zero {g cap aT lo : Nat} (tl : List Value) : Srt Tryz.prog (RowS g 0 cap aT lo tl) g 0 (.func (.func 47) #[] #[.pointer (some ⟨aT, 0, none⟩)]) (.func (.func 104) #[] #[]) ltS where
  ord := ordS
  lp := rfl
  sp := rfl
  nb := by decide
  bound := fun f W h => h.row.lt
  ext := fun f W W' h e => h.ext e
  less := fun f W i j h hi hj => by omega
  swap := fun f W i j h hi hj => by omega
theorem srt_nil {aT : Nat} : Srt Tryz.prog (fun (_ : Nat → Sg) W => Blk W aT [.slice none 0 0] 23) aT 0 (.func (.func 47) #[] #[.pointer (some ⟨aT, 0, none⟩)]) (.func (.func 104) #[] #[]) ltS where
  ord := ordS
  lp := rfl
  sp := rfl
  nb := by decide
  bound := fun f W h => h.lt
  ext := fun f W W' h e => h.ext e
  less := fun f W i j h hi hj => by omega
  swap := fun f W i j h hi hj => by omega
theorem sort46_of {g n cap aT lo lk : Nat} {tl : List Value} {f : Nat → Sg} {w : World} {sf : Value} (hg : lk ≤ g) (hll : lo ≤ lk) (hc : n ≤ cap) (hm : cap ≤ maxLen) (htl : tl.length = cap * 23 - n * 23) (hS : RowS g n cap aT lo tl f w)
    (hR : Srt Tryz.prog (RowS g n cap aT lo tl) g n (.func (.func 47) #[] #[.pointer (some ⟨aT, 0, none⟩)]) sf ltS) (hsw : isSw (.slice (some ⟨g, 0, none⟩) n cap) sf) :
    Calls Tryz.prog 46 [.iface 23 (.slice (some ⟨g, 0, none⟩) n cap), .func (.func 47) #[] #[.pointer (some ⟨aT, 0, none⟩)]].toArray w (fun e w' => e = .returned (.tuple #[]) ∧ Sorted46 lo lk (.slice (some ⟨g, 0, none⟩) n cap) (lsf n f) w w') := by
  refine (c95 hR f (some ⟨g, 0, none⟩) cap w hS hsw).mono ?_
  rintro e w' ⟨rfl, hch, f', hS', hmv, hsr⟩
  have hfb : Fb lo w w' := Fb.chg hch (Nat.le_trans hll hg) (Blk.notB hS.row rfl)
  refine ⟨rfl, ⟨hch.os, hch.tape, hch.output, hch.size, fun k hk hne => hch.block k hk (fun e => hne (by rw [e]; rfl))⟩, hfb, lsf n f', ⟨?_, fun x hx => ?_⟩, by rw [lsf_len, lsf_len], fun p => ?_, ?_⟩
  · have hcl : (cS.cs (lsf n f')).length = n * 23 := by rw [cs_len, lsf_len]; rfl
    have hle : n * 23 ≤ cap * 23 := Nat.mul_le_mul_right _ hc
    rw [lsf_len]
    refine ⟨hcl, .inr ⟨g, cap, _, rfl, hg, hS'.row, hc, hm, ?_, ?_⟩⟩
    · show (cS.cs (lsf n f') ++ tl).toArray.size = cap * 23
      rw [List.size_toArray, List.length_append, hcl, htl]; omega
    · exact List.take_left' hcl
  · obtain ⟨k, hk⟩ := List.getElem?_of_mem hx
    have hkn : k < n := by have := (List.getElem?_eq_some_iff.1 hk).1; rwa [lsf_len] at this
    rw [lsf_at f' hkn] at hk; cases hk; exact hS'.ok k hkn
  · constructor
    · intro hp
      obtain ⟨x, hx, rfl⟩ := List.mem_map.1 hp
      obtain ⟨k, hk⟩ := List.getElem?_of_mem hx
      have hkn : k < n := by have := (List.getElem?_eq_some_iff.1 hk).1; rwa [lsf_len] at this
      rw [lsf_at f' hkn] at hk; cases hk
      obtain ⟨j, _, hj, e⟩ := hmv.to k (Nat.zero_le _) hkn
      exact List.mem_map.2 ⟨f j, List.mem_of_getElem? (lsf_at f hj), by rw [e]⟩
    · intro hp
      obtain ⟨x, hx, rfl⟩ := List.mem_map.1 hp
      obtain ⟨k, hk⟩ := List.getElem?_of_mem hx
      have hkn : k < n := by have := (List.getElem?_eq_some_iff.1 hk).1; rwa [lsf_len] at this
      rw [lsf_at f hkn] at hk; cases hk
      obtain ⟨j, _, hj, e⟩ := hmv.fro k (Nat.zero_le _) hkn
      exact List.mem_map.2 ⟨f' j, List.mem_of_getElem? (lsf_at f' hj), by rw [e]⟩
  · intro i j x y hij hx hy
    have hjn : j < n := by have := (List.getElem?_eq_some_iff.1 hy).1; rwa [lsf_len] at this
    rw [lsf_at f' (by omega)] at hx
    rw [lsf_at f' hjn] at hy
    cases hx; cases hy
    exact hsr i j (Nat.zero_le _) hij hjn
theorem sort46 {lo lk aT : Nat} {v : Value} {xs : List Sg} {w : World} (hO : Ow cS lo lk w v xs) (hll : lo ≤ lk) (hT : Blk w aT [v] 23) (hn : xs.length ≤ 1000000) :
    Calls Tryz.prog 46 [.iface 23 v, .func (.func 47) #[] #[.pointer (some ⟨aT, 0, none⟩)]].toArray w (fun e w' => e = .returned (.tuple #[]) ∧ Sorted46 lo lk v xs w w') := by
  obtain ⟨⟨hl, ⟨rfl, h0⟩ | ⟨g, cap, cur, rfl, hg, hb, h1, h2, h3, h4⟩⟩, hok⟩ := hO
  · obtain rfl : xs = [] := List.eq_nil_of_length_eq_zero h0
    refine (c95 srt_nil (fun _ => Sg.zero) none 0 w hT (isSw_zero none 0)).mono ?_
    rintro e w' ⟨rfl, hch, f', hS', _, _⟩
    have hblk : ∀ k, k < w.heap.size → w'.heap[k]? = w.heap[k]? := fun k hk => by
      by_cases e : k = aT
      · subst e
        have e1 : w'.heap[k]? = _ := hS'
        have e2 : w.heap[k]? = _ := hT
        rw [e1, e2]
      · exact hch.block k hk e
    have hx : Ext w w' := ⟨hch.os, hch.tape, hch.output, hch.size, hblk⟩
    exact ⟨rfl, ⟨hch.os, hch.tape, hch.output, hch.size, fun k hk _ => hblk k hk⟩, Fb.ext hx, [], Ow.nil _ _ _ _, rfl, fun _ => Iff.rfl, fun i j x y _ hx => by simp at hx⟩
  · have hB : Blk w g cur.toList 34 := by
      have hb' : w.heap[g]? = some (.cells cur 34 (0, 0)) := hb
      simpa [Blk] using hb'
    have h3' : cur.size = cap * 23 := h3
    have h4' : cur.toList.take (xs.length * 23) = cS.cs xs := h4
    have hcat : cur.toList = cS.cs (lsf xs.length (fun k => xs.getD k Sg.zero)) ++ cur.toList.drop (xs.length * 23) := by rw [lsf_of, ← h4', List.take_append_drop]
    rw [hcat] at hB
    have hS : RowS g xs.length cap aT lo (cur.toList.drop (xs.length * 23)) (fun k => xs.getD k Sg.zero) w := ⟨hB, hT, fun k hk => hok _ (by
      show xs.getD k Sg.zero ∈ xs
      rw [List.getD_eq_getElem?_getD, List.getElem?_eq_getElem hk]; exact List.getElem_mem hk)⟩
    have hm : cap ≤ 9223372036854775807 := h2
    have htl : (cur.toList.drop (xs.length * 23)).length = cap * 23 - xs.length * 23 := by rw [List.length_drop]; simp [h3']
    have key : ∀ sf, Srt Tryz.prog (RowS g xs.length cap aT lo (cur.toList.drop (xs.length * 23))) g xs.length (.func (.func 47) #[] #[.pointer (some ⟨aT, 0, none⟩)]) sf ltS → isSw (.slice (some ⟨g, 0, none⟩) xs.length cap) sf →
        Calls Tryz.prog 46 [.iface 23 (.slice (some ⟨g, 0, none⟩) xs.length cap), .func (.func 47) #[] #[.pointer (some ⟨aT, 0, none⟩)]].toArray w (fun e w' => e = .returned (.tuple #[]) ∧ Sorted46 lo lk (.slice (some ⟨g, 0, none⟩) xs.length cap) xs w w') := by
      intro sf hR hsw
      have := sort46_of hg hll h1 h2 htl hS hR hsw
      rwa [lsf_of] at this
    rcases Nat.lt_or_ge xs.length 2 with hs | hs
    · by_cases hz : xs.length = 0
      · refine key (.func (.func 104) #[] #[]) ?_ ?_
        · rw [hz]; exact srt_zero _
        · rw [hz]; exact isSw_zero _ _
      · have h1l : xs.length = 1 := by omega
        refine key (.func (.func 105) #[] #[]) ?_ ?_
        · rw [h1l]; rw [h1l] at h1; exact srt_one _ h1 hm (Nat.le_trans hll hg)
        · rw [h1l]; exact isSw_one _ _
    · exact key _ (srt_many _ h1 hm (Nat.le_trans hll hg) hn hs) (isSw_many _ _ hs)
end Go.Proofs.YteeopgpgbdhmhaaGreat
namespace Go.Proofs.YteeopgpgbdhmhaaGreat
open Go.RowKit Go.Lib
set_option linter.unusedVariables false
set_option linter.unusedSimpArgs false
def CutOf {α : Type} (C : Cd α) (v : Value) (xs : List α) (va : Value) (ys : List α) : Prop := (∀ W, Rs W v xs.length C.sz (C.cs xs) → Rs W va ys.length C.sz (C.cs ys)) ∧ (∀ y ∈ ys, y ∈ xs) ∧ ys.length ≤ xs.length
section
variable {α : Type} {C : Cd α} {lo : Nat} {w : World} {v va : Value} {xs ys : List α}
theorem CutOf.refl (C : Cd α) (v : Value) (xs : List α) : CutOf C v xs v xs := ⟨fun _ h => h, fun _ h => h, Nat.le_refl _⟩
theorem CutOf.cut (c : CutOf C v xs va ys) {i j : Nat} (hij : i ≤ j) (hj : j ≤ ys.length) : CutOf C v xs (cutV va C.sz i j) ((ys.drop i).take (j - i)) := by
  refine ⟨fun W h => ?_, fun y hy => c.2.1 y (List.mem_of_mem_drop (List.mem_of_mem_take hy)), ?_⟩
  · have h1 : Ls ({C with ok := fun _ _ _ => True, okz := fun _ _ => trivial, fb := fun _ _ _ _ _ _ => trivial} : Cd α) 0 W va ys := ⟨c.1 W h, fun _ _ => trivial⟩
    exact (h1.cut hij hj).1
  · have := c.2.2
    rw [List.length_take, List.length_drop]; omega
end
theorem lel_ltz {α : Type} {C : Cd α} {xs : List α} {j s : Nat} {y : α} (hs : C.sz = s) (hk : 0 < s) (hy : xs[j]? = some y) : j * s < (C.cs xs).length := by subst hs; exact lel_lt (k := 0) hy hk
section
variable {P : Program} {ρ : Operand → Value} {w : World} {dst : Option Tmp} {ty : TypeId} {pos : String} {aft : Array Edge} {gd : Option (Nat × Bool)}
end
section
variable {P : Program} {ops : Array Oper} {Q : Exit → Act → World → Prop} {K : Act → World → Prop} {n : Nat} {f : Nat → Value} {w : World} {d : Option Tmp} {ty : TypeId} {pos : String} {aft : Array Edge}
end
theorem OwnB.take {w : World} {lo : Nat} {v : Value} {b : List UInt8} (h : OwnB w lo v b) {j : Nat} (hj : j ≤ b.length) : OwnB w lo (cutV v 1 0 j) (((b).drop 0).take (j - 0)) := by
  obtain ⟨hl, ⟨rfl, h0⟩ | ⟨g, cap, cur, rfl, hg, hb, h1, h2, h3, h4⟩⟩ := h
  · obtain rfl : b = [] := List.eq_nil_of_length_eq_zero h0
    obtain rfl : j = 0 := by simpa using hj
    exact OwnB.nil w lo
  · refine ⟨by simp [bl_len], .inr ⟨g, cap, cur, ?_, hg, hb, ?_, h2, h3, ?_⟩⟩
    · simp only [cutV, List.drop_zero, List.length_take, Nat.sub_zero, Nat.zero_mul]
      rw [Nat.min_eq_left hj]
      by_cases hc : cap = 0
      · rw [if_pos hc]
      · rw [if_neg hc]; rfl
    · simp only [List.drop_zero, List.length_take, Nat.sub_zero]; omega
    · simp only [List.drop_zero, Nat.sub_zero, List.length_take, Nat.mul_one, Nat.min_eq_left hj] at h4 ⊢
      have e : cur.toList.take j = (cur.toList.take b.length).take j := by rw [List.take_take, Nat.min_eq_left hj]
      rw [e, h4]; simp [bl, List.map_take]
end Go.Proofs.YteeopgpgbdhmhaaGreat
namespace Go.Proofs.YteeopgpgbdhmhaaGreat
open Go.RowKit Go.Lib
set_option linter.unusedVariables false
set_option linter.unusedSimpArgs false
section
variable {P : Program} {ρ : Operand → Value} {w : World} {dst : Option Tmp} {ty : TypeId} {pos : String} {aft : Array Edge} {gd : Option (Nat × Bool)}
theorem R_mkI {x : Operand} {v : Value} {t e : TypeId} (ht : P.underlying t = some (.slice e)) (hx : ρ x = v) : (execOp ρ ⟨dst, .makeInterface t x, ty, pos, aft, gd⟩).run P w = .ok (.value (.iface t v)) w := by
  simp [execOp, hx, Instr.makeInterface, run_underlying ht]
theorem R_mkF1 {x : Operand} {v : Value} {F : Fn} (hx : ρ x = v) : (execOp ρ ⟨dst, .makeFunc F #[] #[x], ty, pos, aft, gd⟩).run P w = .ok (.value (.func F #[] #[v])) w := by
  simp [execOp, hx, Instr.makeFunc]
end
theorem rs_pl {w : World} {v : Value} {m sz : Nat} {cs : List Value} (h : Rs w v m sz cs) : plainV v = true := by
  obtain ⟨_, A, c, rfl, _⟩ := h; rfl
theorem fillp {xs ys : List Sg} {i : Nat} {y : Sg} (h : (ys.take i).map Sg.p = (xs.take i).map Sg.p) (hl : ys.length = xs.length) (lk : i < xs.length) (hy : y.p = (xs.getD i Sg.zero).p) : ((ys.set i y).take (i + 1)).map Sg.p = (xs.take (i + 1)).map Sg.p := by
  have hi : i < ys.length := by omega
  have e1 : (ys.set i y).take (i + 1) = ys.take i ++ [y] := by
    apply List.ext_getElem?
    intro k
    rw [List.getElem?_take, List.getElem?_set]
    rcases Nat.lt_trichotomy k i with hk | hk | hk
    · rw [if_pos (by omega), if_neg (by omega), List.getElem?_append_left (by rw [List.length_take]; omega), List.getElem?_take, if_pos hk]
    · subst hk; rw [if_pos (by omega), if_pos rfl, if_pos hi, List.getElem?_append_right (by rw [List.length_take]; omega), List.length_take, Nat.min_eq_left (by omega), Nat.sub_self]; rfl
    · rw [if_neg (by omega), List.getElem?_eq_none (by rw [List.length_append, List.length_take, List.length_singleton]; omega)]
  rw [e1, List.map_append, h, List.take_add_one, List.map_append, List.getElem?_eq_getElem lk]
  have e2 : xs.getD i Sg.zero = xs[i] := by simp [List.getD, lk]
  rw [e2] at hy
  simp [hy]
def ddn (zs : List Sg) : Nat → List Sg
  | 0 => []
  | k + 1 => if k = 0 ∨ (zs.getD k Sg.zero).vote ≠ (zs.getD (k - 1) Sg.zero).vote then ddn zs k ++ [zs.getD k Sg.zero] else ddn zs k
theorem ddn_len (zs : List Sg) : ∀ k, (ddn zs k).length ≤ k
  | 0 => Nat.le_refl _
  | k + 1 => by
    have := ddn_len zs k
    rw [ddn]; split
    · rw [List.length_append, List.length_singleton]; omega
    · omega
theorem ddn_y {zs ys : List Sg} {k : Nat} (h : ys = ddn zs k) (hc : k = 0 ∨ (zs.getD k Sg.zero).vote ≠ (zs.getD (k - 1) Sg.zero).vote) : ys ++ [zs.getD k Sg.zero] = ddn zs (k + 1) := by rw [ddn, if_pos hc, h]
theorem ddn_n {zs ys : List Sg} {k : Nat} (h : ys = ddn zs k) (hc : ¬ (k = 0 ∨ (zs.getD k Sg.zero).vote ≠ (zs.getD (k - 1) Sg.zero).vote)) : ys = ddn zs (k + 1) := by rw [ddn, if_neg hc, h]
end Go.Proofs.YteeopgpgbdhmhaaGreat
namespace Go.Proofs.YteeopgpgbdhmhaaGreat
open Go.RowKit
set_option linter.unusedVariables false
set_option linter.unusedSimpArgs false
attribute [local irreducible] wpList wpO H wpQuiet wpStill Code.wp Exit.then Exit.inBlock bodyPost Code.rounds Calls valid sameKey lessV hless num between
set_option maxRecDepth 4000 in
set_option maxHeartbeats 2000000 in
theorem c57 (lo : Nat) (v : Value) (xs : List Sg) (w : World) (hlo : lo ≤ w.heap.size) (hn : xs.length ≤ 1000000) (h : Ls cS lo w v xs) (hsl : ∀ x ∈ xs, x.sig.length ≤ 140737488355328) : Calls Tryz.prog 24 [v].toArray w (RetE w fun r w' => ∃ ys, Ow cS lo w.heap.size w' r ys ∧ ∃ zs : List Sg, zs.length = xs.length ∧ (∀ p, p ∈ zs.map Sg.p ↔ p ∈ xs.map Sg.p) ∧ srtL zs ∧ ys = ddn zs zs.length) := by
  refine enter Tryz.func24 Tryz.ntmps24 rfl rfl ?_
  have hE := Ext.refl w
  refine wp_seq ?_
  refine W_region ?_
  refine L (D_v (R_assign rfl) ?_)
  refine S_nil ?_
  refine T_tn ?_
  refine wp_seq ?_
  refine W_region ?_
  refine L (D_v (R_move rfl) ?_)
  refine L (D_v (R_len Tryz.underlying23 rfl (h.ext hE).1) ?_)
  refine L (D_makeL (C := cS) (lo := lo) (l := (xs).length) (c := (xs).length) mk53 Tryz.underlying23 rfl rfl (by (try simp only [List.length_take, List.length_drop, List.length_append, List.length_cons, List.length_nil, List.length_replicate, List.length_set, Nm.b_len, be2_len]); omega) (by (try simp only [List.length_take, List.length_drop, List.length_append, List.length_cons, List.length_nil, List.length_replicate, List.length_set, Nm.b_len, be2_len]); omega) (by (try simp only [List.length_take, List.length_drop, List.length_append, List.length_cons, List.length_nil, List.length_replicate, List.length_set, Nm.b_len, be2_len]); omega) (fun v2_2 w2_2 o2_2 e2_2 => ?_))
  replace o2_2 := o2_2.low hE.size
  replace hE := hE.trans e2_2
  refine L (D_alloc (c := [(Value.slice none 0 0)]) Tryz.zeroValue23 rfl (fun aB2_3 w2_3 e2_3 gB2_3 hB2_3 => ?_))
  have lB2_3 := Nat.le_trans hE.size gB2_3
  replace hE := hE.trans e2_3
  replace o2_2 := o2_2.ext e2_3
  have xo2_2 := own_neB o2_2.1 hB2_3 rfl
  have h0 := hB2_3
  refine L (D_store1 Tryz.sizeOf23 hB2_3 rfl rfl (rs_pl o2_2.ls.1) rfl (fun w2_4 k2_4 (hB2_3 : Blk w2_4 aB2_3 [v2_2] 23) => ?_))
  have f2_4 := Fb.kp k2_4 (Nat.le_trans hlo lB2_3) (Blk.notB h0 rfl)
  replace hE := hE.kp k2_4 lB2_3
  replace o2_2 := o2_2.kp k2_4 xo2_2 f2_4
  refine S_nil ?_
  refine T_tn ?_
  refine wp_seq ?_
  refine wp_seq ?_
  refine W_region ?_
  refine L (D_v (R_move rfl) ?_)
  refine L (D_v (R_len Tryz.underlying23 rfl (h.ext hE).1) ?_)
  refine L (D_v (R_move rfl) ?_)
  refine S_nil ?_
  refine T_tn ?_
  refine wp_block ?_
  refine W_loop (fun mz g W => ∃ (i : Nat) (ys : List Sg), mz = xs.length - i ∧ g 3 = .pointer (some ⟨aB2_3, 0, none⟩) ∧ g 12 = v ∧ g 13 = i64 (((xs).length : Nat) : Int) ∧ g 14 = i64 ((i : Nat) : Int) ∧ Ext w W ∧ Blk W aB2_3 [v2_2] 23 ∧ Ow cS lo w.heap.size W v2_2 ys ∧ i ≤ xs.length ∧ ys.length = xs.length ∧ (ys.take i).map Sg.p = (xs.take i).map Sg.p) ⟨0, _, rfl, rfl, rfl, rfl, rfl, hE, hB2_3, o2_2, (Nat.zero_le _), (by simp), (by simp)⟩ ?_
  rintro mz f4 w4l ⟨i, ys, hm, q3, q12, q13, q14, hE, hB2_3, ov2_2, hi, hyl, hyp⟩
  refine wp_seq ?_
  refine W_region ?_
  refine L (D_v (R_lssI q14 q13) ?_)
  refine S_nil ?_
  refine T_tn ?_
  refine wp_seq ?_
  refine W_if rfl (fun c1 => ?_) (fun c1 => ?_)
  ·
    have lk : i < xs.length := by simp at c1; omega
    have hsi := hsl _ (List.getElem_mem (by exact lk))
    have hgd : xs.getD i Sg.zero = xs[i] := by simp [List.getD, lk]
    rw [← hgd] at hsi
    refine wp_skip ?_
    refine T_tn ?_
    refine wp_seq ?_
    refine wp_block ?_
    refine wp_seq ?_
    refine W_region ?_
    refine L (D_v (R_move q14) ?_)
    refine L (D_v (R_elAddr (i := i) Tryz.underlying23 Tryz.sizeOf34 q12 q14 (h.ext hE).1 (by (try simp only [List.length_take, List.length_drop, List.length_append, List.length_cons, List.length_nil, List.length_replicate, List.length_set, Nm.b_len, be2_len]); omega)) ?_)
    have k6_2 := ((h.ext hE)).get (getD_some (d := Sg.zero) (by (try simp only [List.length_take, List.length_drop, List.length_append, List.length_cons, List.length_nil, List.length_replicate, List.length_set, Nm.b_len, be2_len]); omega))
    refine L (D_v (R_ldL (C := cS) (i := i) (y := ((xs).getD (i) Sg.zero)) Tryz.isAgg34 Tryz.sizeOf34 rfl (h.ext hE) (getD_some (d := Sg.zero) (by (try simp only [List.length_take, List.length_drop, List.length_append, List.length_cons, List.length_nil, List.length_replicate, List.length_set, Nm.b_len, be2_len]); omega))) ?_)
    refine L (D_alloc (c := (Sg.zero).l) Tryz.zeroValue34 rfl (fun aB6_3 w6_3 e6_3 gB6_3 hB6_3 => ?_))
    have lB6_3 := Nat.le_trans hE.size gB6_3
    have nB2_3B6_3 := hB2_3.ne gB6_3
    have yv2_2_B6_3 : Value.ownBlock v2_2 ≠ some aB6_3 := fun hk => absurd (own_lt ov2_2.1 hk) (Nat.not_lt.2 gB6_3)
    replace hE := hE.trans e6_3
    replace hB2_3 := hB2_3.ext e6_3
    replace ov2_2 := ov2_2.ext e6_3
    replace k6_2 := k6_2.fb (Fb.ext e6_3)
    refine L (D_v (R_assign rfl) ?_)
    have xov2_2 := yv2_2_B6_3
    have h0 := hB6_3
    refine L (D_storeA Tryz.sizeOf34 hB6_3 rfl rfl rfl rfl rfl (l' := (((xs).getD (i) Sg.zero)).l) rfl (fun w6_5 k6_5 hB6_3 => ?_))
    have f6_5 := Fb.kp k6_5 (Nat.le_trans hlo lB6_3) (Blk.notB h0 rfl)
    replace hE := hE.kp k6_5 lB6_3
    replace hB2_3 := hB2_3.kp k6_5 nB2_3B6_3
    replace ov2_2 := ov2_2.kp k6_5 xov2_2 f6_5
    replace k6_2 := k6_2.fb f6_5
    refine S_nil ?_
    refine T_tn ?_
    refine W_held (fun W => Ext w W ∧ Blk W aB2_3 [v2_2] 23 ∧ Blk W aB6_3 (((xs).getD (i) Sg.zero)).l 34 ∧ Sg.okf lo W (((xs).getD (i) Sg.zero)) ∧ True) mixed (fun w7_99 e7_99 => ?_)
    replace hE := hE.trans e7_99
    replace hB2_3 := hB2_3.ext e7_99
    replace hB6_3 := hB6_3.ext e7_99
    replace ov2_2 := ov2_2.ext e7_99
    replace k6_2 := k6_2.fb (Fb.ext e7_99)
    refine H_take (i := 0) rfl (by kernel_rfl) (by kernel_rfl) (by kernel_rfl) rfl (pq_block (pq_then (pq_then (pq_block (pq_then pq_body))))) ⟨hE, hB2_3, hB6_3, k6_2, trivial⟩ rfl (fun w hw => R_load Tryz.isAgg23 hw.2.1 q3 rfl) ?_
    refine H_take (i := 1) rfl (by kernel_rfl) (by kernel_rfl) (by kernel_rfl) rfl (pq_block (pq_then (pq_then (pq_block (pq_then pq_body))))) ⟨hE, hB2_3, hB6_3, k6_2, trivial⟩ rfl (fun w hw => R_move rfl) ?_
    refine H_take (i := 2) rfl (by kernel_rfl) (by kernel_rfl) (by kernel_rfl) rfl (pq_block (pq_then (pq_then (pq_block (pq_then pq_body))))) ⟨hE, hB2_3, hB6_3, k6_2, trivial⟩ rfl (fun w hw => R_fieldAddr Tryz.runUnderlying34 rfl Tryz.sizeOf31 rfl) ?_
    refine H_take (i := 3) rfl (by kernel_rfl) (by kernel_rfl) (by kernel_rfl) rfl (pq_block (pq_then (pq_then (pq_block (pq_then pq_body))))) ⟨hE, hB2_3, hB6_3, k6_2, trivial⟩ rfl (fun w hw => R_loadA (c := ((((xs).getD (i) Sg.zero)).vote).l) Tryz.isAgg31 Tryz.sizeOf31 hw.2.2.1 rfl rfl rfl) ?_
    refine H_take (i := 4) rfl (by kernel_rfl) (by kernel_rfl) (by kernel_rfl) rfl (pq_block (pq_then (pq_then (pq_block (pq_then pq_body))))) ⟨hE, hB2_3, hB6_3, k6_2, trivial⟩ rfl (fun w hw => R_fieldAddr Tryz.runUnderlying34 rfl Tryz.sizeOf32 rfl) ?_
    refine H_take (i := 5) rfl (by kernel_rfl) (by kernel_rfl) (by kernel_rfl) rfl (pq_block (pq_then (pq_then (pq_block (pq_then pq_body))))) ⟨hE, hB2_3, hB6_3, k6_2, trivial⟩ rfl (fun w hw => R_load Tryz.isAgg32 hw.2.2.1 rfl rfl) ?_
    refine H_op (i := 6) (by kernel_rfl) rfl rfl (D_callE (R_callF Tryz.call45 rfl rfl) (c86_0 (.slice (((xs).getD (i) Sg.zero)).A (((xs).getD (i) Sg.zero)).n (((xs).getD (i) Sg.zero)).c) ((((xs).getD (i) Sg.zero)).sig) _ _ k6_2.bs (by simp only [List.length_nil, Nat.add_zero, Nat.zero_add]; omega)) (fun v7_6 w7_6 e7_6 p7_6 => ?_))
    have o7_6 := p7_6
    replace o7_6 := o7_6.lo hE.size
    replace hE := hE.trans e7_6
    replace hB2_3 := hB2_3.ext e7_6
    replace hB6_3 := hB6_3.ext e7_6
    replace ov2_2 := ov2_2.ext e7_6
    replace k6_2 := k6_2.fb (Fb.ext e7_6)
    refine ⟨⟨hE, hB2_3, hB6_3, k6_2, trivial⟩, ?_⟩
    have k7_7 : Sg.okf lo w7_6 (mkSg ((((xs).getD (i) Sg.zero)).vote) v7_6 (((xs).getD (i) Sg.zero)).sig) := mkSg_ok _ (Bf.own o7_6)
    refine H_op (i := 7) (by kernel_rfl) rfl rfl (D_v (R_buildS (vs := [(0, .agg ((((xs).getD (i) Sg.zero)).vote).l.toArray), (1, v7_6)]) (c := (mkSg ((((xs).getD (i) Sg.zero)).vote) v7_6 (((xs).getD (i) Sg.zero)).sig).l) Tryz.runUnderlying34 places53 Tryz.zeroValue34 (mapp2 rfl rfl) (fill53 _ o7_6.bs)) ⟨⟨hE, hB2_3, hB6_3, k6_2, trivial⟩, ?_⟩)
    refine H_op (i := 8) (by kernel_rfl) rfl rfl (D_v (R_elAddr (i := i) Tryz.underlying23 Tryz.sizeOf34 rfl rfl ov2_2.ls.1 (by (try simp only [List.length_take, List.length_drop, List.length_append, List.length_cons, List.length_nil, List.length_replicate, List.length_set, Nm.b_len, be2_len]); omega)) ⟨⟨hE, hB2_3, hB6_3, k6_2, trivial⟩, ?_⟩)
    refine H_op (i := 9) (by kernel_rfl) rfl rfl (D_stL (C := cS) (i := i) (c := (mkSg ((((xs).getD (i) Sg.zero)).vote) v7_6 (((xs).getD (i) Sg.zero)).sig)) (by decide) Tryz.sizeOf34 rfl rfl ov2_2 hlo (by (try simp only [List.length_take, List.length_drop, List.length_append, List.length_cons, List.length_nil, List.length_replicate, List.length_set, Nm.b_len, be2_len]); omega) k7_7 (fun w7_9 o7_9 g7_9 f7_9 => ?_))
    replace hE := hE.grown g7_9 (fun k hk => own_ge ov2_2.1 hk)
    replace hB2_3 := hB2_3.grown g7_9 (own_neB ov2_2.1 hB2_3 rfl)
    replace hB6_3 := hB6_3.grown g7_9 (yv2_2_B6_3)
    replace o7_6 := o7_6.grown g7_9 (own_ne o7_6 ov2_2.1 rfl)
    replace k6_2 := k6_2.fb f7_9
    replace k7_7 := k7_7.fb f7_9
    refine ⟨⟨hE, hB2_3, hB6_3, k6_2, trivial⟩, ?_⟩
    refine H_done (by kernel_rfl) ?_
    refine T_bn ?_
    refine T_tn ?_
    refine W_region ?_
    refine L (D_v (R_addN (m := i) (j := 1) q14 rfl (by (try simp only [List.length_take, List.length_drop, List.length_append, List.length_cons, List.length_nil, List.length_replicate, List.length_set, Nm.b_len, be2_len]); omega)) ?_)
    refine L (D_v (R_move rfl) ?_)
    refine S_nil ?_
    refine T_tn ?_
    refine ⟨_, _, ?_, rfl, i + 1, _, rfl, q3, q12, q13, rfl, hE, hB2_3, o7_9, ?_, ?_, ?_⟩
    all_goals first | omega | (simp only [List.length_set]; exact hyl) | exact fillp hyp hyl lk rfl
  ·
    obtain rfl : i = xs.length := by have h9 := of_decide_eq_false c1; omega
    refine wp_exit ?_
    refine T_te ?_
    refine T_te ?_
    refine T_be ?_
    refine T_tn ?_
    refine wp_seq ?_
    refine W_region ?_
    refine L (D_v (R_load Tryz.isAgg23 hB2_3 q3 rfl) ?_)
    refine L (D_v (R_mkI Tryz.underlying23 rfl) ?_)
    refine L (D_v (R_mkF1 q3) ?_)
    refine L (D_callS (R_callF Tryz.call46 rfl rfl) (sort46 ov2_2 hlo hB2_3 (by omega)) (fun w6_3 p6_3 => ?_))
    obtain ⟨g6_3, f6_3, zs6_3, o6_3, hzl, hzm, hzs⟩ := p6_3
    replace hE := hE.grown g6_3 (fun k hk => own_ge ov2_2.1 hk)
    replace hB2_3 := hB2_3.grown g6_3 (own_neB ov2_2.1 hB2_3 rfl)
    refine S_nil ?_
    refine T_tn ?_
    refine wp_seq ?_
    refine W_region ?_
    refine L (D_v (R_assign rfl) ?_)
    refine S_nil ?_
    refine T_tn ?_
    refine wp_seq ?_
    refine wp_seq ?_
    refine W_region ?_
    refine L (D_v (R_load Tryz.isAgg23 hB2_3 q3 rfl) ?_)
    refine L (D_v (R_len Tryz.underlying23 rfl o6_3.ls.1) ?_)
    refine L (D_v (R_move rfl) ?_)
    refine S_nil ?_
    refine T_tn ?_
    refine wp_block ?_
    refine W_loop (fun mz g W => ∃ (k : Nat) (us : List Sg) (r6 : Value), mz = zs6_3.length - k ∧ g 3 = .pointer (some ⟨aB2_3, 0, none⟩) ∧ g 6 = r6 ∧ g 33 = v2_2 ∧ g 34 = i64 (((zs6_3).length : Nat) : Int) ∧ g 35 = i64 ((k : Nat) : Int) ∧ Ext w W ∧ Blk W aB2_3 [v2_2] 23 ∧ Ow cS lo w.heap.size W v2_2 zs6_3 ∧ Ow cS lo w.heap.size W r6 us ∧ (∀ k, Value.ownBlock v2_2 = some k → Value.ownBlock r6 ≠ some k) ∧ k ≤ zs6_3.length ∧ us = ddn zs6_3 k) ⟨0, [], _, rfl, q3, rfl, rfl, rfl, rfl, hE, hB2_3, o6_3, (Ow.nil cS lo _ _), (fun k _ h => nomatch (show (none : Option Nat) = some _ from h)), (Nat.zero_le _), rfl⟩ ?_
    rintro mz f9 w9l ⟨k, us, r6, hm, q3, q6, q33, q34, q35, hE, hB2_3, ov2_2, or6, zv2_2_r6, hk, hu⟩
    have hul := ddn_len zs6_3 k
    rw [← hu] at hul
    refine wp_seq ?_
    refine W_region ?_
    refine L (D_v (R_lssI q35 q34) ?_)
    refine S_nil ?_
    refine T_tn ?_
    refine wp_seq ?_
    refine W_if rfl (fun c2 => ?_) (fun c2 => ?_)
    ·
      have lk : k < zs6_3.length := by simp at c2; omega
      refine wp_skip ?_
      refine T_tn ?_
      refine wp_seq ?_
      refine wp_block ?_
      refine wp_seq ?_
      refine W_region ?_
      refine L (D_v (R_move q35) ?_)
      refine L (D_v (R_elAddr (i := k) Tryz.underlying23 Tryz.sizeOf34 q33 q35 ov2_2.ls.1 (by (try simp only [List.length_take, List.length_drop, List.length_append, List.length_cons, List.length_nil, List.length_replicate, List.length_set, Nm.b_len, be2_len]); omega)) ?_)
      have k11_2 := (ov2_2.ls).get (getD_some (d := Sg.zero) (by (try simp only [List.length_take, List.length_drop, List.length_append, List.length_cons, List.length_nil, List.length_replicate, List.length_set, Nm.b_len, be2_len]); omega))
      refine L (D_v (R_ldL (C := cS) (i := k) (y := ((zs6_3).getD (k) Sg.zero)) Tryz.isAgg34 Tryz.sizeOf34 rfl ov2_2.ls (getD_some (d := Sg.zero) (by (try simp only [List.length_take, List.length_drop, List.length_append, List.length_cons, List.length_nil, List.length_replicate, List.length_set, Nm.b_len, be2_len]); omega))) ?_)
      refine L (D_alloc (c := (Sg.zero).l) Tryz.zeroValue34 rfl (fun aB11_3 w11_3 e11_3 gB11_3 hB11_3 => ?_))
      have lB11_3 := Nat.le_trans hE.size gB11_3
      have nB2_3B11_3 := hB2_3.ne gB11_3
      have yv2_2_B11_3 : Value.ownBlock v2_2 ≠ some aB11_3 := fun hk => absurd (own_lt ov2_2.1 hk) (Nat.not_lt.2 gB11_3)
      have yr6_B11_3 : Value.ownBlock r6 ≠ some aB11_3 := fun hk => absurd (own_lt or6.1 hk) (Nat.not_lt.2 gB11_3)
      replace hE := hE.trans e11_3
      replace hB2_3 := hB2_3.ext e11_3
      replace ov2_2 := ov2_2.ext e11_3
      replace or6 := or6.ext e11_3
      replace k11_2 := k11_2.fb (Fb.ext e11_3)
      refine L (D_v (R_assign rfl) ?_)
      have xov2_2 := yv2_2_B11_3
      have xor6 := yr6_B11_3
      have h0 := hB11_3
      refine L (D_storeA Tryz.sizeOf34 hB11_3 rfl rfl rfl rfl rfl (l' := (((zs6_3).getD (k) Sg.zero)).l) rfl (fun w11_5 k11_5 hB11_3 => ?_))
      have f11_5 := Fb.kp k11_5 (Nat.le_trans hlo lB11_3) (Blk.notB h0 rfl)
      replace hE := hE.kp k11_5 lB11_3
      replace hB2_3 := hB2_3.kp k11_5 nB2_3B11_3
      replace ov2_2 := ov2_2.kp k11_5 xov2_2 f11_5
      replace or6 := or6.kp k11_5 xor6 f11_5
      replace k11_2 := k11_2.fb f11_5
      refine S_nil ?_
      refine T_tn ?_
      refine wp_seq ?_
      refine W_draw mixed (by kernel_rfl) ?_
      refine Q_v (fun w hw => R_move rfl) ?_
      refine Q_v (fun w hw => R_eqlI rfl rfl) ?_
      refine Q_v (fun w hw => R_move rfl) ?_
      refine Q_g1 rfl rfl (fun hb w hw => R_fieldAddr Tryz.runUnderlying34 rfl Tryz.sizeOf31 rfl) ?_
      refine Q_g1 rfl rfl (fun hb w hw => R_loadA (c := ((((zs6_3).getD (k) Sg.zero)).vote).l) Tryz.isAgg31 Tryz.sizeOf31 (hB11_3.ext hw) (cgE hb) rfl rfl) ?_
      refine Q_g1 rfl rfl (fun hb w hw => R_load Tryz.isAgg23 (hB2_3.ext hw) q3 rfl) ?_
      refine Q_g1 rfl rfl (fun hb w hw => R_move rfl) ?_
      refine Q_g1 rfl rfl (fun hb w hw => R_subN (m := k) (j := 1) (cgE hb) rfl (by first | ((try simp only [List.length_take, List.length_drop, List.length_append, List.length_cons, List.length_nil]); omega) | (simp at hb; omega)) (by first | ((try simp only [List.length_take, List.length_drop, List.length_append, List.length_cons, List.length_nil]); omega) | (simp at hb; omega))) ?_
      refine Q_g1 rfl rfl (fun hb w hw => R_elAddr (i := (k - 1)) Tryz.underlying23 Tryz.sizeOf34 (cgE hb) (cgE hb) (ov2_2.ls.ext hw).1 (by first | ((try simp only [List.length_take, List.length_drop, List.length_append, List.length_cons, List.length_nil]); omega) | (simp at hb; omega))) ?_
      refine Q_g1 rfl rfl (fun hb w hw => R_fieldEl (k := (k - 1) * 23) Tryz.runUnderlying34 rfl Tryz.sizeOf31 (ov2_2.ls.ext hw).1 (lel_ltz (C := cS) (s := 23) rfl (by decide) (getD_some (d := Sg.zero) (by first | ((try simp only [List.length_take, List.length_drop, List.length_append, List.length_cons, List.length_nil]); omega) | (simp at hb; omega)))) (cgE hb)) ?_
      refine Q_g1 rfl rfl (fun hb w hw => R_ldP (C := cS) (i := (k - 1)) (k := 0) (y := ((zs6_3).getD ((k - 1)) Sg.zero)) (c := ((((zs6_3).getD ((k - 1)) Sg.zero)).vote).l) Tryz.isAgg31 Tryz.sizeOf31 (cgE hb) (ov2_2.ls.ext hw) (getD_some (d := Sg.zero) (by first | ((try simp only [List.length_take, List.length_drop, List.length_append, List.length_cons, List.length_nil]); omega) | (simp at hb; omega))) (by decide) (by decide) rfl) ?_
      refine Q_g1 rfl rfl (fun hb w hw => R_neqA Tryz.eqGuardType31 (eq26 ((((zs6_3).getD (k) Sg.zero)).vote) ((((zs6_3).getD ((k - 1)) Sg.zero)).vote) _) (cgE hb) (cgE hb)) ?_
      refine Q_v (fun w hw => R_pickO rfl rfl rfl) ?_
      refine Q_nil (fun w12_99 e12_99 => ?_)
      replace hE := hE.trans e12_99
      replace hB2_3 := hB2_3.ext e12_99
      replace hB11_3 := hB11_3.ext e12_99
      replace ov2_2 := ov2_2.ext e12_99
      replace or6 := or6.ext e12_99
      replace k11_2 := k11_2.fb (Fb.ext e12_99)
      refine T_tn ?_
      refine W_if rfl (fun c3 => ?_) (fun c3 => ?_)
      ·
        have hc9 := c3
        refine W_region ?_
        refine L (D_v (R_move q6) ?_)
        refine L (D_v (R_loadA (c := (((zs6_3).getD (k) Sg.zero)).l) Tryz.isAgg34 Tryz.sizeOf34 hB11_3 rfl rfl rfl) ?_)
        refine L (D_buildL1 (C := cS) (lo := lo) (y := ((zs6_3).getD (k) Sg.zero)) Tryz.underlying23 Tryz.sizeOf34 Tryz.zeroValue34 (mapp1 rfl) (by decide) k11_2 (fun v13_2 w13_2 o13_2 e13_2 => ?_))
        have yv13_2_B11_3 : Value.ownBlock v13_2 ≠ some aB11_3 := fun hk => absurd (own_ge o13_2.1 hk) (Nat.not_le.2 hB11_3.lt)
        have zv2_2_v13_2 := own_apart ov2_2.1 o13_2.1
        have zv13_2_v2_2 := fun k hk hk2 => zv2_2_v13_2 k hk2 hk
        have zr6_v13_2 := own_apart or6.1 o13_2.1
        have zv13_2_r6 := fun k hk hk2 => zr6_v13_2 k hk2 hk
        replace o13_2 := o13_2.low hE.size
        replace hE := hE.trans e13_2
        replace hB2_3 := hB2_3.ext e13_2
        replace hB11_3 := hB11_3.ext e13_2
        replace ov2_2 := ov2_2.ext e13_2
        replace or6 := or6.ext e13_2
        replace k11_2 := k11_2.fb (Fb.ext e13_2)
        refine L (D_appendL elt53 Tryz.underlying23 rfl rfl or6 hlo o13_2.ls (by (try simp only [List.length_take, List.length_drop, List.length_append, List.length_cons, List.length_nil, List.length_replicate, List.length_set, Nm.b_len, be2_len]); omega) (by (try simp only [List.length_take, List.length_drop, List.length_append, List.length_cons, List.length_nil, List.length_replicate, List.length_set, Nm.b_len, be2_len]); omega) hE.size (fun v13_3 w13_3 o13_3 g13_3 f13_3 sv13_3 => ?_))
        have yv13_3_B11_3 : Value.ownBlock v13_3 ≠ some aB11_3 := fun hk => (sv13_3 _ hk).elim yr6_B11_3 (fun h => absurd h (Nat.not_le.2 hB11_3.lt))
        have zv2_2_v13_3 : ∀ k, Value.ownBlock v2_2 = some k → Value.ownBlock v13_3 ≠ some k := fun k hk2 hk => (sv13_3 _ hk).elim (fun h => zv2_2_r6 k hk2 h) (fun h => absurd h (Nat.not_le.2 (own_lt ov2_2.1 hk2)))
        have zv13_3_v2_2 := fun k hk hk2 => zv2_2_v13_3 k hk2 hk
        have zv13_2_v13_3 : ∀ k, Value.ownBlock v13_2 = some k → Value.ownBlock v13_3 ≠ some k := fun k hk2 hk => (sv13_3 _ hk).elim (fun h => zv13_2_r6 k hk2 h) (fun h => absurd h (Nat.not_le.2 (own_lt o13_2.1 hk2)))
        have zv13_3_v13_2 := fun k hk hk2 => zv13_2_v13_3 k hk2 hk
        replace hE := hE.grown g13_3 (fun k hk => own_ge or6.1 hk)
        replace hB2_3 := hB2_3.grown g13_3 (own_neB or6.1 hB2_3 rfl)
        replace hB11_3 := hB11_3.grown g13_3 (yr6_B11_3)
        replace ov2_2 := ov2_2.grown g13_3 (zv2_2_r6) f13_3
        replace o13_2 := o13_2.grown g13_3 (zv13_2_r6) f13_3
        replace k11_2 := k11_2.fb f13_3
        refine L (D_v (R_assign rfl) ?_)
        refine S_nil ?_
        refine T_bn ?_
        refine T_tn ?_
        refine W_region ?_
        refine L (D_v (R_addN (m := k) (j := 1) q35 rfl (by (try simp only [List.length_take, List.length_drop, List.length_append, List.length_cons, List.length_nil, List.length_replicate, List.length_set, Nm.b_len, be2_len]); omega)) ?_)
        refine L (D_v (R_move rfl) ?_)
        refine S_nil ?_
        refine T_tn ?_
        refine ⟨_, _, ?_, rfl, k + 1, _, _, rfl, q3, rfl, q33, q34, rfl, hE, hB2_3, ov2_2, o13_3, zv2_2_v13_3, ?_, ?_⟩
        all_goals first | omega | exact ddn_y hu (by (try simp at hc9); first | exact hc9 | omega) | exact ddn_n hu (by (try simp at hc9); first | exact hc9 | (simp; exact hc9))
      ·
        have hc9 := c3
        refine wp_skip ?_
        refine T_bn ?_
        refine T_tn ?_
        refine W_region ?_
        refine L (D_v (R_addN (m := k) (j := 1) q35 rfl (by (try simp only [List.length_take, List.length_drop, List.length_append, List.length_cons, List.length_nil, List.length_replicate, List.length_set, Nm.b_len, be2_len]); omega)) ?_)
        refine L (D_v (R_move rfl) ?_)
        refine S_nil ?_
        refine T_tn ?_
        refine ⟨_, _, ?_, rfl, k + 1, _, _, rfl, q3, q6, q33, q34, rfl, hE, hB2_3, ov2_2, or6, zv2_2_r6, ?_, ?_⟩
        all_goals first | omega | exact ddn_y hu (by (try simp at hc9); first | exact hc9 | omega) | exact ddn_n hu (by (try simp at hc9); first | exact hc9 | (simp; exact hc9))
    ·
      obtain rfl : k = zs6_3.length := by have h9 := of_decide_eq_false c2; omega
      refine wp_exit ?_
      refine T_te ?_
      refine T_te ?_
      refine T_be ?_
      refine T_tn ?_
      refine wp_seq ?_
      refine W_region ?_
      refine L (D_v (R_move q6) ?_)
      refine L (D_v (R_assign rfl) ?_)
      refine S_nil ?_
      refine T_tn ?_
      refine wp_ret ?_
      refine ret1 (v := r6) rfl rfl ⟨_, rfl, hE, ?_⟩
      exact ⟨_, or6, zs6_3, by omega, fun p => by rw [hzm, show ys.map Sg.p = xs.map Sg.p from by rw [List.take_of_length_le (by omega), List.take_of_length_le (by omega)] at hyp; exact hyp], hzs, hu⟩
end Go.Proofs.YteeopgpgbdhmhaaGreat
namespace Go.Proofs.YteeopgpgbdhmhaaGreat
open Go.RowKit Go.Lib
set_option linter.unusedVariables false
theorem lessP_V {x y : Pv} (h : lessP x y = false) : lessV x.1 y.1 = false := by
  by_cases e : x.1 = y.1
  · rw [e]; exact less_irr _
  · rw [lessP_ne e] at h; exact h
theorem srt_at {zs : List Sg} (h : srtL zs) {i j : Nat} (hij : i < j) (hj : j < zs.length) : lessP (zs.getD j Sg.zero).p (zs.getD i Sg.zero).p = false :=
  h i j _ _ hij (getD_some (by omega)) (getD_some hj)
theorem srt_step {zs : List Sg} (h : srtL zs) {i k : Nat} (hik : i < k) (hk : k < zs.length) (hn : (zs.getD k Sg.zero).vote ≠ (zs.getD (k - 1) Sg.zero).vote) : lessV (zs.getD i Sg.zero).vote (zs.getD k Sg.zero).vote = true := by
  have h1 : lessV (zs.getD k Sg.zero).vote (zs.getD i Sg.zero).vote = false := lessP_V (srt_at h hik hk)
  have h2 : lessV (zs.getD k Sg.zero).vote (zs.getD (k - 1) Sg.zero).vote = false := lessP_V (srt_at h (by omega) hk)
  by_cases e : (zs.getD i Sg.zero).vote = (zs.getD k Sg.zero).vote
  · exfalso
    by_cases e2 : i = k - 1
    · subst e2; exact hn e.symm
    · have h3 : lessV (zs.getD (k - 1) Sg.zero).vote (zs.getD i Sg.zero).vote = false := lessP_V (srt_at h (by omega) (by omega))
      rw [e] at h3
      rcases less_total hn with h4 | h4
      · rw [h4] at h2; cases h2
      · rw [h4] at h3; cases h3
  · rcases less_total e with h4 | h4
    · exact h4
    · rw [h4] at h1; cases h1
theorem ddn_inv {zs : List Sg} (h : srtL zs) : ∀ k, k ≤ zs.length → asc ((ddn zs k).map Sg.p) ∧ (∀ y ∈ ddn zs k, ∃ i, i < k ∧ y = zs.getD i Sg.zero) ∧ (∀ i, i < k → ∃ j, j ≤ i ∧ zs.getD j Sg.zero ∈ ddn zs k ∧ (zs.getD j Sg.zero).vote = (zs.getD i Sg.zero).vote)
  | 0, _ => ⟨List.Pairwise.nil, fun y hy => by simp [ddn] at hy, fun i hi => by omega⟩
  | k + 1, hk => by
    obtain ⟨h1, h2, h3⟩ := ddn_inv h k (by omega)
    by_cases hc : k = 0 ∨ (zs.getD k Sg.zero).vote ≠ (zs.getD (k - 1) Sg.zero).vote
    · rw [← ddn_y rfl hc]
      refine ⟨?_, fun y hy => ?_, fun i hi => ?_⟩
      · rw [List.map_append]
        refine List.pairwise_append.2 ⟨h1, by simp, fun a ha b hb => ?_⟩
        obtain ⟨y, hy, rfl⟩ := List.mem_map.1 ha
        obtain ⟨i, hi, rfl⟩ := h2 y hy
        rw [List.map_singleton, List.mem_singleton] at hb
        subst hb
        rcases hc with hc | hc
        · omega
        · exact srt_step h hi (by omega) hc
      · rcases List.mem_append.1 hy with hy | hy
        · obtain ⟨i, hi, e⟩ := h2 y hy; exact ⟨i, by omega, e⟩
        · rw [List.mem_singleton] at hy; exact ⟨k, by omega, hy⟩
      · by_cases hik : i < k
        · obtain ⟨j, hj, hm, e⟩ := h3 i hik; exact ⟨j, hj, List.mem_append_left _ hm, e⟩
        · obtain rfl : i = k := by omega
          exact ⟨i, Nat.le_refl _, List.mem_append_right _ (List.mem_singleton_self _), rfl⟩
    · rw [← ddn_n (ys := ddn zs k) rfl hc]
      refine ⟨h1, fun y hy => ?_, fun i hi => ?_⟩
      · obtain ⟨i, hi, e⟩ := h2 y hy; exact ⟨i, by omega, e⟩
      · by_cases hik : i < k
        · exact h3 i hik
        · obtain rfl : i = k := by omega
          have hc2 : i ≠ 0 ∧ (zs.getD i Sg.zero).vote = (zs.getD (i - 1) Sg.zero).vote := by
            refine ⟨fun e => hc (.inl e), ?_⟩
            by_cases e : (zs.getD i Sg.zero).vote = (zs.getD (i - 1) Sg.zero).vote
            · exact e
            · exact absurd (.inr e) hc
          obtain ⟨j, hj, hm, e⟩ := h3 (i - 1) (by omega)
          exact ⟨j, by omega, hm, e.trans hc2.2.symm⟩
theorem ddn_can {zs : List Sg} (h : srtL zs) : IsCan (zs.map Sg.p) ((ddn zs zs.length).map Sg.p) := by
  obtain ⟨h1, h2, h3⟩ := ddn_inv h zs.length (Nat.le_refl _)
  refine ⟨h1, fun y hy => ?_, fun x hx => ?_⟩
  · obtain ⟨a, ha, rfl⟩ := List.mem_map.1 hy
    obtain ⟨i, hi, rfl⟩ := h2 a ha
    exact List.mem_map.2 ⟨_, List.mem_of_getElem? (getD_some hi), rfl⟩
  · obtain ⟨a, ha, rfl⟩ := List.mem_map.1 hx
    obtain ⟨i, hi⟩ := List.getElem?_of_mem ha
    have hil := (List.getElem?_eq_some_iff.1 hi).1
    have e1 : zs.getD i Sg.zero = a := by rw [List.getD_eq_getElem?_getD, hi]; rfl
    obtain ⟨j, hj, hm, e⟩ := h3 i hil
    refine ⟨_, List.mem_map.2 ⟨_, hm, rfl⟩, by rw [← e1]; exact e, ?_⟩
    rw [← e1]
    by_cases hij : j = i
    · subst hij; exact ltB_irr _
    · have := srt_at h (show j < i by omega) hil
      rw [lessP_eq (show (zs.getD i Sg.zero).p.1 = (zs.getD j Sg.zero).p.1 from e.symm)] at this
      exact this
theorem can_of {xs zs ys : List Sg} (h : srtL zs) (hm : ∀ p, p ∈ zs.map Sg.p ↔ p ∈ xs.map Sg.p) (hy : ys = ddn zs zs.length) : IsCan (xs.map Sg.p) (ys.map Sg.p) := by
  have := ddn_can h
  subst hy
  exact ⟨this.up, fun y hyy => (hm y).1 (this.sub y hyy), fun x hx => this.all x ((hm x).2 hx)⟩
end Go.Proofs.YteeopgpgbdhmhaaGreat
namespace Go.Proofs.YteeopgpgbdhmhaaGreat
open Go.RowKit Go.Lib
set_option linter.unusedVariables false
set_option linter.unusedSimpArgs false
section
variable {P : Program} {ops : Array Oper} {Q : Exit → Act → World → Prop} {K : Act → World → Prop} {n : Nat} {f : Nat → Value} {w : World} {d : Option Tmp} {op : Op} {ty : TypeId} {pos : String} {aft : Array Edge}
theorem D_on {j dj : Nat} {want : Bool} (hj : (ops[j]?).bind (·.dst) = some dj) (hb : ov n f (.tmp dj) = .bool want) (h : wpO P ops Q ⟨d, op, ty, pos, aft, none⟩ K (E n f) w) :
    wpO P ops Q ⟨d, op, ty, pos, aft, some (j, want)⟩ K (E n f) w := by
  have hw : Region.wanted (⟨d, op, ty, pos, aft, some (j, want)⟩ : Oper) (yielded ops (E n f).tmps) = (want == want) := wanted_b rfl hj hb
  simp only [wpO, Region.wanted, if_true] at h
  unfold wpO
  rw [if_pos (by rw [hw]; simp)]
  exact h
theorem D_makeMap {t : TypeId} (k : ∀ g w', Ext w w' → w.heap.size ≤ g → w'.heap[g]? = some (.map #[] 0) → K (E n (upo f d (.map (some g)))) w') :
    wpO P ops Q ⟨d, .makeMap t none, ty, pos, aft, none⟩ K (E n f) w := by
  refine D_v (v := .map (some w.heap.size)) (w' := w.alloc (.map #[] 0)) ?_ (k _ _ (Ext.alloc _ _) (Nat.le_refl _) (by unfold World.alloc; exact Array.getElem?_push_size))
  simp [go_sem, Instr.makeMap]
end
theorem places108 (w : World) : ((#[⟨"seed", 29, 0, false, "", "forkledger/manytime", 0⟩, ⟨"levels", 3, 8, false, "", "forkledger/manytime", 8⟩, ⟨"trees", 134, 9, false, "", "forkledger/manytime", 16⟩] : Array Field).mapM fun (f : Field) => Prod.mk f.offset <$> sizeOf f.type).run Tryz.prog w = .ok #[(0, 8), (8, 1), (9, 1)] w := by
  simp [Tryz.sizeOf29, Tryz.sizeOf3, Tryz.sizeOf134, go_sem]
theorem fill108 (n : Nm) (l : Int) (m : Option Nat) : Instr.fill ((#[(0, 8), (8, 1), (9, 1)] : Array (Nat × Nat))[·]?) (Nm.zero.l ++ [i64 0, .map none]).toArray [(0, .agg n.l.toArray), (1, i64 l), (2, .map m)] = some (n.l ++ [i64 l, .map m]).toArray := by
  rw [fill_step (off := 0) (size := 8) (c := n.l) rfl rfl rfl (by decide), fill_step (off := 8) (size := 1) (c := [i64 l]) rfl rfl rfl (by simp [Nm.l]), fill_step (off := 9) (size := 1) (c := [.map m]) rfl rfl rfl (by simp [Nm.l]), Instr.fill]
  simp [Nm.l]
theorem two_sig {a b : Vt} {V W : Value} {z : UInt8} : ∀ x ∈ [mkSg a V [], mkSg b W [z]], x.sig.length ≤ 140737488355328 := by
  intro x hx
  rcases List.mem_cons.1 hx with h1 | h1
  · rw [h1]; exact Nat.zero_le _
  · rw [List.mem_singleton.1 h1]; show 1 ≤ _; omega
theorem can_one {a : Vt} {V W : Value} {s : List UInt8} {ys : List Sg} (h : IsCan ([mkSg a V [], mkSg a W s].map Sg.p) (ys.map Sg.p)) : ys.length = 1 := by
  have e1 : (mkSg a V []).p = (a, []) := rfl
  have e2 : (mkSg a W s).p = (a, s) := rfl
  have k : IsCan ([mkSg a V [], mkSg a W s].map Sg.p) [(a, [])] := by
    refine ⟨List.pairwise_singleton _ _, fun y hy => ?_, fun x hx => ⟨(a, []), List.mem_singleton_self _, ?_⟩⟩
    · rw [List.mem_singleton] at hy; subst hy; exact List.mem_cons_self ..
    · simp only [List.map_cons, List.map_nil, List.mem_cons, List.not_mem_nil, or_false, e1, e2] at hx
      rcases hx with rfl | rfl
      · exact ⟨rfl, rfl⟩
      · refine ⟨rfl, ?_⟩
        cases s <;> rfl
  have := IsCan.uniq (fun _ => Iff.rfl) h k
  have h2 := congrArg List.length this
  simpa using h2
section
variable {ρ : Operand → Value} {w : World} {dst : Option Tmp} {ty : TypeId} {pos : String} {aft : Array Edge} {gd : Option (Nat × Bool)}
theorem R_ptrNN {x y : Operand} {a : Addr} {t' : TypeId} (hx : ρ x = .pointer (some a)) (hy : ρ y = .pointer none) : (execOp ρ ⟨dst, .binOp .neq 105 x y t', ty, pos, aft, gd⟩).run Tryz.prog w = .ok (.value (.bool true)) w := by
  have e : (Op.equalIn Op.maxDepth 105 (.pointer (some a)) (.pointer none)).run Tryz.prog w = .ok false w := by
    show (Op.equalIn (Op.maxDepth - 1 + 1) 105 (.pointer (some a)) (.pointer none)).run Tryz.prog w = .ok false w
    simp [Op.equalIn, run_underlying Tryz.underlying105]
  simp [go_sem, hx, hy, binOp, Op.equal, e]
theorem R_mapNN {x y : Operand} {m : Nat} {t' : TypeId} (hx : ρ x = .map (some m)) (hy : ρ y = .map none) : (execOp ρ ⟨dst, .binOp .neq 134 x y t', ty, pos, aft, gd⟩).run Tryz.prog w = .ok (.value (.bool true)) w := by
  have hu : ∃ k e, Tryz.prog.underlying 134 = some (.map k e) := ⟨_, _, Tryz.underlying134⟩
  obtain ⟨kk, ee, hu⟩ := hu
  have e : (Op.equalIn Op.maxDepth 134 (.map (some m)) (.map none)).run Tryz.prog w = .ok false w := by
    show (Op.equalIn (Op.maxDepth - 1 + 1) 134 (.map (some m)) (.map none)).run Tryz.prog w = .ok false w
    simp [Op.equalIn, run_underlying hu]
  simp [go_sem, hx, hy, binOp, Op.equal, e]
end
end Go.Proofs.YteeopgpgbdhmhaaGreat
namespace Go.Proofs.YteeopgpgbdhmhaaGreat
open Go.RowKit
set_option linter.unusedVariables false
set_option linter.unusedSimpArgs false
attribute [local irreducible] wpList wpO H wpQuiet wpStill Code.wp Exit.then Exit.inBlock bodyPost Code.rounds Calls valid sameKey lessV hless num between
set_option maxRecDepth 4000 in
set_option maxHeartbeats 1000000 in
theorem c60 (n : Nm) (w : World) : Calls Tryz.prog 77 [n.v, i64 2].toArray w (RetE w fun r w' => ∃ g m, r = .pointer (some ⟨g, 0, none⟩) ∧ w.heap.size ≤ g ∧ Blk w' g ((n).l ++ [i64 (2), .map (some m)]) 136) := by
  refine enter Tryz.func77 Tryz.ntmps77 rfl rfl ?_
  have hE := Ext.refl w
  refine wp_seq ?_
  refine W_region ?_
  refine L (D_box (c := (n).l) (rfl) (fun aB1_0 w1_0 e1_0 gB1_0 hB1_0 => ?_))
  have lB1_0 := Nat.le_trans hE.size gB1_0
  replace hE := hE.trans e1_0
  refine L (D_v (R_assign rfl) ?_)
  refine S_nil ?_
  refine T_tn ?_
  refine wp_seq ?_
  refine wp_seq ?_
  refine W_region ?_
  refine L (D_v (R_move rfl) ?_)
  refine L (D_call (R_callF Tryz.call67 rfl rfl) (c98_2 _) (fun w2_1 e2_1 => ?_))
  replace hE := hE.trans e2_1
  replace hB1_0 := hB1_0.ext e2_1
  refine L (D_v (R_cast (v' := .bool false) (R_eqlI rfl rfl) rfl) ?_)
  refine S_nil ?_
  refine T_tn ?_
  refine W_iff rfl ?_
  refine wp_skip ?_
  refine T_tn ?_
  refine wp_seq ?_
  refine W_region ?_
  refine L (D_v (R_loadA (c := (n).l) Tryz.isAgg29 Tryz.sizeOf29 hB1_0 rfl rfl rfl) ?_)
  refine L (D_v (R_move rfl) ?_)
  refine L (D_makeMap (fun m3_2 w3_2 e3_2 gm3_2 hm3_2 => ?_))
  replace hE := hE.trans e3_2
  replace hB1_0 := hB1_0.ext e3_2
  refine L (D_v (R_buildS (vs := [(0, .agg (n).l.toArray), (1, i64 (2)), (2, .map (some m3_2))]) (c := (n).l ++ [i64 (2), .map (some m3_2)]) Tryz.runUnderlying136 places108 Tryz.zeroValue136 rfl (fill108 _ _ _)) ?_)
  refine L (D_box (c := (n).l ++ [i64 (2), .map (some m3_2)]) (rfl) (fun aB3_4 w3_4 e3_4 gB3_4 hB3_4 => ?_))
  have lB3_4 := Nat.le_trans hE.size gB3_4
  have nB1_0B3_4 := hB1_0.ne gB3_4
  replace hE := hE.trans e3_4
  replace hB1_0 := hB1_0.ext e3_4
  refine L (D_v (R_assign rfl) ?_)
  refine S_nil ?_
  refine T_tn ?_
  refine wp_ret ?_
  refine ret1 (v := _) rfl rfl ⟨_, rfl, hE, ?_⟩
  exact ⟨aB3_4, _, rfl, lB3_4, hB3_4⟩
set_option maxRecDepth 4000 in
set_option maxHeartbeats 1000000 in
theorem c128 (n : Nm) (m aK : Nat) (w : World) (hTK : Blk w aK ((n).l ++ [i64 (2), .map (some m)]) 136) : Calls Tryz.prog 127 [.pointer (some ⟨aK, 0, none⟩)].toArray w (Ret w (.bool true)) := by
  refine enter Tryz.func127 Tryz.ntmps127 rfl rfl ?_
  have hE := Ext.refl w
  refine wp_seq ?_
  refine W_region ?_
  refine L (D_v (R_assign rfl) ?_)
  refine S_nil ?_
  refine T_tn ?_
  refine wp_seq ?_
  refine W_region ?_
  refine L (D_v (R_move rfl) ?_)
  refine L (D_v (R_ptrNN rfl rfl) ?_)
  refine L (D_v (R_move rfl) ?_)
  refine L (D_on rfl rfl (D_v (R_move rfl) ?_))
  refine L (D_on rfl rfl (D_v (R_nilCheck rfl) ?_))
  refine L (D_on rfl rfl (D_v (R_fieldAddr Tryz.runUnderlying136 rfl Tryz.sizeOf134 rfl) ?_))
  refine L (D_on rfl rfl (D_v (R_load Tryz.isAgg134 hTK rfl rfl) ?_))
  refine L (D_on rfl rfl (D_v (R_mapNN rfl rfl) ?_))
  refine L (D_v (R_cast (v' := .bool true) (R_pick rfl rfl rfl) rfl) ?_)
  refine L (D_v (R_assign rfl) ?_)
  refine S_nil ?_
  refine T_tn ?_
  refine wp_ret ?_
  refine ret1 (v := .bool _) rfl rfl ⟨congrArg (fun b => Ending.returned (Value.bool b)) ?_, hE⟩
  rfl
set_option maxRecDepth 4000 in
set_option maxHeartbeats 1000000 in
theorem c97_n (n : Nm) (m aK : Nat) (x : Nm) (w : World) (hTK : Blk w aK ((n).l ++ [i64 (2), .map (some m)]) 136) : Calls Tryz.prog 102 [.pointer (some ⟨aK, 0, none⟩), i64 1024, x.v].toArray w (Ret w (.tuple #[.slice none 0 0, .bool false])) := by
  refine enter Tryz.func102 Tryz.ntmps102 rfl rfl ?_
  have hE := Ext.refl w
  refine wp_seq ?_
  refine W_region ?_
  refine L (D_box (c := (x).l) (rfl) (fun aB1_0 w1_0 e1_0 gB1_0 hB1_0 => ?_))
  have lB1_0 := Nat.le_trans hE.size gB1_0
  have nKB1_0 := hTK.ne gB1_0
  replace hE := hE.trans e1_0
  replace hTK := hTK.ext e1_0
  refine L (D_v (R_assign rfl) ?_)
  refine L (D_v (R_assign rfl) ?_)
  refine S_nil ?_
  refine T_tn ?_
  refine wp_seq ?_
  refine wp_seq ?_
  refine W_region ?_
  refine L (D_v (R_move rfl) ?_)
  refine L (D_call (R_callF Tryz.call127 rfl rfl) (c128 (n) m aK _ hTK) (fun w2_1 e2_1 => ?_))
  replace hE := hE.trans e2_1
  replace hTK := hTK.ext e2_1
  replace hB1_0 := hB1_0.ext e2_1
  refine L (D_v (R_not rfl) ?_)
  refine L (D_v (R_move rfl) ?_)
  refine L (D_on rfl rfl (D_v (R_move rfl) ?_))
  refine L (D_on rfl rfl (D_v (R_cast (v' := .bool false) (R_lssI rfl rfl) rfl) ?_))
  refine L (D_v (R_cast (v' := .bool false) (R_pick rfl rfl rfl) rfl) ?_)
  refine L (D_v (R_move rfl) ?_)
  refine L (D_on rfl rfl (D_v (R_move rfl) ?_))
  refine L (D_on rfl rfl (D_v (R_move rfl) ?_))
  refine L (D_on rfl rfl (D_v (R_nilCheck rfl) ?_))
  refine L (D_on rfl rfl (D_v (R_fieldAddr Tryz.runUnderlying136 rfl Tryz.sizeOf3 rfl) ?_))
  refine L (D_on rfl rfl (D_v (R_load Tryz.isAgg3 hTK rfl rfl) ?_))
  refine L (D_on rfl rfl (D_call (R_callF Tryz.call67 rfl rfl) (c98_2 _) (fun w2_13 e2_13 => ?_)))
  replace hE := hE.trans e2_13
  replace hTK := hTK.ext e2_13
  replace hB1_0 := hB1_0.ext e2_13
  refine L (D_on rfl rfl (D_v (R_cast (v' := .bool true) (R_geqI rfl rfl) rfl) ?_))
  refine L (D_v (R_cast (v' := .bool true) (R_pick rfl rfl rfl) rfl) ?_)
  refine S_nil ?_
  refine T_tn ?_
  refine W_ift rfl ?_
  refine wp_seq ?_
  refine W_region ?_
  refine L (D_v (R_assign rfl) ?_)
  refine L (D_v (R_assign rfl) ?_)
  refine S_nil ?_
  refine T_tn ?_
  refine wp_ret ?_
  refine T_tr ?_
  refine ret2 (v := _) (v2 := .bool _) rfl rfl rfl ⟨?_, hE⟩
  rfl
set_option maxRecDepth 4000 in
set_option maxHeartbeats 1000000 in
theorem c59_n (n : Nm) (m aK : Nat) (x : Vt) (w : World) (hTK : Blk w aK ((n).l ++ [i64 (2), .map (some m)]) 136) : Calls Tryz.prog 76 [.pointer (some ⟨aK, 0, none⟩), i64 1024, x.v].toArray w (Ret w (.tuple #[Sg.zero.v, .bool false])) := by
  refine enter Tryz.func76 Tryz.ntmps76 rfl rfl ?_
  have hE := Ext.refl w
  refine wp_seq ?_
  refine W_region ?_
  refine L (D_box (c := (x).l) (rfl) (fun aB1_0 w1_0 e1_0 gB1_0 hB1_0 => ?_))
  have lB1_0 := Nat.le_trans hE.size gB1_0
  have nKB1_0 := hTK.ne gB1_0
  replace hE := hE.trans e1_0
  replace hTK := hTK.ext e1_0
  refine L (D_alloc (c := (Sg.zero).l) Tryz.zeroValue34 rfl (fun aB1_1 w1_1 e1_1 gB1_1 hB1_1 => ?_))
  have lB1_1 := Nat.le_trans hE.size gB1_1
  have nKB1_1 := hTK.ne gB1_1
  have nB1_0B1_1 := hB1_0.ne gB1_1
  replace hE := hE.trans e1_1
  replace hTK := hTK.ext e1_1
  replace hB1_0 := hB1_0.ext e1_1
  refine L (D_v (R_assign rfl) ?_)
  refine S_nil ?_
  refine T_tn ?_
  refine wp_seq ?_
  refine wp_seq ?_
  refine W_region ?_
  refine L (D_v (R_loadA (c := (x).l) Tryz.isAgg31 Tryz.sizeOf31 hB1_0 rfl rfl rfl) ?_)
  refine L (D_call (R_callF Tryz.call38 rfl rfl) (c26 (x) _ ) (fun w2_1 e2_1 => ?_))
  replace hE := hE.trans e2_1
  replace hTK := hTK.ext e2_1
  replace hB1_0 := hB1_0.ext e2_1
  replace hB1_1 := hB1_1.ext e2_1
  refine L (D_v (R_not rfl) ?_)
  refine S_nil ?_
  refine T_tn ?_
  refine W_if rfl (fun c1 => ?_) (fun c1 => ?_)
  ·
    refine wp_seq ?_
    refine W_region ?_
    refine L (D_v (R_buildS (c := Sg.zero.l) Tryz.runUnderlying34 places53 Tryz.zeroValue34 rfl rfl) ?_)
    have h0 := hB1_1
    refine L (D_storeA Tryz.sizeOf34 hB1_1 rfl rfl rfl rfl rfl (l' := (Sg.zero).l) rfl (fun w3_1 k3_1 hB1_1 => ?_))
    replace hE := hE.kp k3_1 lB1_1
    refine L (D_v (R_assign rfl) ?_)
    refine S_nil ?_
    refine T_tn ?_
    refine wp_ret ?_
    refine T_tr ?_
    refine retct (c := (Sg.zero).l) (v2 := .bool false) rfl rfl rfl Tryz.isAgg34 Tryz.sizeOf34 hB1_1 rfl rfl ⟨?_, hE⟩
    rfl
  ·
    refine wp_skip ?_
    refine T_tn ?_
    refine wp_seq ?_
    refine W_region ?_
    refine L (D_v (R_move rfl) ?_)
    refine L (D_v (R_move rfl) ?_)
    refine L (D_v (R_loadA (c := (x).l) Tryz.isAgg31 Tryz.sizeOf31 hB1_0 rfl rfl rfl) ?_)
    refine L (D_call (R_callF Tryz.call40 rfl rfl) (c36 (x) _) (fun w3_3 e3_3 => ?_))
    replace hE := hE.trans e3_3
    replace hTK := hTK.ext e3_3
    replace hB1_0 := hB1_0.ext e3_3
    replace hB1_1 := hB1_1.ext e3_3
    refine L (D_call (R_callF Tryz.call102 rfl rfl) (c97_n (n) m aK ((nameV x)) _ hTK) (fun w3_4 e3_4 => ?_))
    replace hE := hE.trans e3_4
    replace hTK := hTK.ext e3_4
    replace hB1_0 := hB1_0.ext e3_4
    replace hB1_1 := hB1_1.ext e3_4
    refine L (D_v (R_move rfl) ?_)
    refine L (D_v (R_extract rfl rfl) ?_)
    refine L (D_v (R_extract rfl rfl) ?_)
    refine L (D_v (R_assign rfl) ?_)
    refine L (D_v (R_assign rfl) ?_)
    refine S_nil ?_
    refine T_tn ?_
    refine wp_seq ?_
    refine wp_seq ?_
    refine W_region ?_
    refine L (D_v (R_move rfl) ?_)
    refine L (D_v (R_not rfl) ?_)
    refine S_nil ?_
    refine T_tn ?_
    refine W_ift rfl ?_
    refine wp_seq ?_
    refine W_region ?_
    refine L (D_v (R_buildS (c := Sg.zero.l) Tryz.runUnderlying34 places53 Tryz.zeroValue34 rfl rfl) ?_)
    have h0 := hB1_1
    refine L (D_storeA Tryz.sizeOf34 hB1_1 rfl rfl rfl rfl rfl (l' := (Sg.zero).l) rfl (fun w5_1 k5_1 hB1_1 => ?_))
    replace hE := hE.kp k5_1 lB1_1
    refine L (D_v (R_assign rfl) ?_)
    refine S_nil ?_
    refine T_tn ?_
    refine wp_ret ?_
    refine T_tr ?_
    refine retct (c := (Sg.zero).l) (v2 := .bool false) rfl rfl rfl Tryz.isAgg34 Tryz.sizeOf34 hB1_1 rfl rfl ⟨?_, hE⟩
    rfl
set_option maxRecDepth 4000 in
set_option maxHeartbeats 1000000 in
theorem c53_n (n : Nm) (x : Vt) (w : World) : Calls Tryz.prog 42 [n.v, i64 1024, x.v].toArray w (Ret w (.tuple #[Sg.zero.v, .bool false])) := by
  refine enter Tryz.func42 Tryz.ntmps42 rfl rfl ?_
  have hE := Ext.refl w
  refine wp_seq ?_
  refine W_region ?_
  refine L (D_box (c := (n).l) (rfl) (fun aB1_0 w1_0 e1_0 gB1_0 hB1_0 => ?_))
  have lB1_0 := Nat.le_trans hE.size gB1_0
  replace hE := hE.trans e1_0
  refine L (D_box (c := (x).l) (rfl) (fun aB1_1 w1_1 e1_1 gB1_1 hB1_1 => ?_))
  have lB1_1 := Nat.le_trans hE.size gB1_1
  have nB1_0B1_1 := hB1_0.ne gB1_1
  replace hE := hE.trans e1_1
  replace hB1_0 := hB1_0.ext e1_1
  refine L (D_alloc (c := (Sg.zero).l) Tryz.zeroValue34 rfl (fun aB1_2 w1_2 e1_2 gB1_2 hB1_2 => ?_))
  have lB1_2 := Nat.le_trans hE.size gB1_2
  have nB1_0B1_2 := hB1_0.ne gB1_2
  have nB1_1B1_2 := hB1_1.ne gB1_2
  replace hE := hE.trans e1_2
  replace hB1_0 := hB1_0.ext e1_2
  replace hB1_1 := hB1_1.ext e1_2
  refine L (D_v (R_assign rfl) ?_)
  refine S_nil ?_
  refine T_tn ?_
  refine wp_seq ?_
  refine W_held (fun W => Ext w W ∧ Blk W aB1_0 (n).l 29 ∧ Blk W aB1_1 (x).l 31 ∧ True) mixed (fun w2_99 e2_99 => ?_)
  replace hE := hE.trans e2_99
  replace hB1_0 := hB1_0.ext e2_99
  replace hB1_1 := hB1_1.ext e2_99
  replace hB1_2 := hB1_2.ext e2_99
  refine H_take (i := 0) rfl (by kernel_rfl) (by kernel_rfl) (by kernel_rfl) rfl (pq_then pq_body) ⟨hE, hB1_0, hB1_1, trivial⟩ rfl (fun w hw => R_loadA (c := (n).l) Tryz.isAgg29 Tryz.sizeOf29 hw.2.1 rfl rfl rfl) ?_
  refine H_take (i := 2) rfl (by kernel_rfl) (by kernel_rfl) (by kernel_rfl) rfl (pq_then pq_body) ⟨hE, hB1_0, hB1_1, trivial⟩ rfl (fun w hw => R_move rfl) ?_
  refine H_take (i := 3) rfl (by kernel_rfl) (by kernel_rfl) (by kernel_rfl) rfl (pq_then pq_body) ⟨hE, hB1_0, hB1_1, trivial⟩ rfl (fun w hw => R_loadA (c := (x).l) Tryz.isAgg31 Tryz.sizeOf31 hw.2.2.1 rfl rfl rfl) ?_
  refine H_op (i := 1) (by kernel_rfl) rfl rfl (D_callE (R_callF Tryz.call77 rfl rfl) (c60 (n) _) (fun v2_1 w2_1 e2_1 p2_1 => ?_))
  obtain ⟨aK2_1, m2_1, rfl, gK2_1, hK2_1⟩ := p2_1
  have lK2_1 := Nat.le_trans hE.size gK2_1
  have nB1_0K2_1 := hB1_0.ne gK2_1
  have nB1_1K2_1 := hB1_1.ne gK2_1
  have nB1_2K2_1 := hB1_2.ne gK2_1
  replace hE := hE.trans e2_1
  replace hB1_0 := hB1_0.ext e2_1
  replace hB1_1 := hB1_1.ext e2_1
  replace hB1_2 := hB1_2.ext e2_1
  refine ⟨⟨hE, hB1_0, hB1_1, trivial⟩, ?_⟩
  refine H_op (i := 4) (by kernel_rfl) rfl rfl (D_call (R_callF Tryz.call76 rfl rfl) (c59_n (n) m2_1 aK2_1 (x) _ hK2_1) (fun w2_4 e2_4 => ?_))
  replace hE := hE.trans e2_4
  replace hB1_0 := hB1_0.ext e2_4
  replace hB1_1 := hB1_1.ext e2_4
  replace hB1_2 := hB1_2.ext e2_4
  replace hK2_1 := hK2_1.ext e2_4
  refine ⟨⟨hE, hB1_0, hB1_1, trivial⟩, ?_⟩
  refine H_take (i := 5) rfl (by kernel_rfl) (by kernel_rfl) (by kernel_rfl) rfl (pq_then pq_body) ⟨hE, hB1_0, hB1_1, trivial⟩ rfl (fun w hw => R_extract rfl rfl) ?_
  refine H_take (i := 6) rfl (by kernel_rfl) (by kernel_rfl) (by kernel_rfl) rfl (pq_then pq_body) ⟨hE, hB1_0, hB1_1, trivial⟩ rfl (fun w hw => R_extract rfl rfl) ?_
  have h0 := hB1_2
  refine H_op (i := 7) (by kernel_rfl) rfl rfl (D_storeA Tryz.sizeOf34 hB1_2 rfl rfl rfl rfl rfl (l' := (Sg.zero).l) rfl (fun w2_7 k2_7 hB1_2 => ?_))
  replace hE := hE.kp k2_7 lB1_2
  replace hB1_0 := hB1_0.kp k2_7 nB1_0B1_2
  replace hB1_1 := hB1_1.kp k2_7 nB1_1B1_2
  replace hK2_1 := hK2_1.kp k2_7 nB1_2K2_1.symm
  refine ⟨⟨hE, hB1_0, hB1_1, trivial⟩, ?_⟩
  refine H_take (i := 8) rfl (by kernel_rfl) (by kernel_rfl) (by kernel_rfl) rfl (pq_then pq_body) ⟨hE, hB1_0, hB1_1, trivial⟩ rfl (fun w hw => R_assign rfl) ?_
  refine H_done (by kernel_rfl) ?_
  refine T_tn ?_
  refine wp_ret ?_
  refine retct (c := (Sg.zero).l) (v2 := .bool false) rfl rfl rfl Tryz.isAgg34 Tryz.sizeOf34 hB1_2 rfl rfl ⟨?_, hE⟩
  rfl
set_option maxRecDepth 4000 in
set_option maxHeartbeats 1000000 in
theorem c56  (w : World) : Calls Tryz.prog 20 [].toArray w (Ret w (.bool true)) := by
  refine enter Tryz.func20 Tryz.ntmps20 rfl rfl ?_
  have hE := Ext.refl w
  refine wp_seq ?_
  refine W_region ?_
  refine L (D_v (R_assign rfl) ?_)
  refine S_nil ?_
  refine T_tn ?_
  refine wp_seq ?_
  refine W_region ?_
  refine L (D_alloc (c := (Nm.zero).l) Tryz.zeroValue29 rfl (fun aB2_0 w2_0 e2_0 gB2_0 hB2_0 => ?_))
  have lB2_0 := Nat.le_trans hE.size gB2_0
  replace hE := hE.trans e2_0
  refine S_nil ?_
  refine T_tn ?_
  refine wp_seq ?_
  refine W_region ?_
  refine L (D_v (R_buildS (vs := [(0, i64 (3)), (2, i64 (1)), (4, i64 (1))]) (c := ((⟨3, 0, 1, 0, 1, 0, Nm.zero, Nm.zero⟩ : Vt)).l) Tryz.runUnderlying31 places26 Tryz.zeroValue31 rfl rfl) ?_)
  refine L (D_alloc (c := (Vt.zero).l) Tryz.zeroValue31 rfl (fun aB3_1 w3_1 e3_1 gB3_1 hB3_1 => ?_))
  have lB3_1 := Nat.le_trans hE.size gB3_1
  have nB2_0B3_1 := hB2_0.ne gB3_1
  replace hE := hE.trans e3_1
  replace hB2_0 := hB2_0.ext e3_1
  have h0 := hB3_1
  refine L (D_storeA Tryz.sizeOf31 hB3_1 rfl rfl rfl rfl rfl (l' := ((⟨3, 0, 1, 0, 1, 0, Nm.zero, Nm.zero⟩ : Vt)).l) rfl (fun w3_2 k3_2 hB3_1 => ?_))
  replace hE := hE.kp k3_2 lB3_1
  replace hB2_0 := hB2_0.kp k3_2 nB2_0B3_1
  refine S_nil ?_
  refine T_tn ?_
  refine wp_seq ?_
  refine W_region ?_
  refine L (D_v (R_loadA (c := (Nm.zero).l) Tryz.isAgg29 Tryz.sizeOf29 hB2_0 rfl rfl rfl) ?_)
  refine L (D_v (R_loadA (c := ((⟨3, 0, 1, 0, 1, 0, Nm.zero, Nm.zero⟩ : Vt)).l) Tryz.isAgg31 Tryz.sizeOf31 hB3_1 rfl rfl rfl) ?_)
  refine L (D_call (R_callF Tryz.call42 rfl rfl) (c53_n (Nm.zero) ((⟨3, 0, 1, 0, 1, 0, Nm.zero, Nm.zero⟩ : Vt)) _) (fun w4_2 e4_2 => ?_))
  replace hE := hE.trans e4_2
  replace hB2_0 := hB2_0.ext e4_2
  replace hB3_1 := hB3_1.ext e4_2
  refine L (D_v (R_move rfl) ?_)
  refine L (D_v (R_extract rfl rfl) ?_)
  refine L (D_v (R_extract rfl rfl) ?_)
  refine L (D_alloc (c := (Sg.zero).l) Tryz.zeroValue34 rfl (fun aB4_6 w4_6 e4_6 gB4_6 hB4_6 => ?_))
  have lB4_6 := Nat.le_trans hE.size gB4_6
  have nB2_0B4_6 := hB2_0.ne gB4_6
  have nB3_1B4_6 := hB3_1.ne gB4_6
  replace hE := hE.trans e4_6
  replace hB2_0 := hB2_0.ext e4_6
  replace hB3_1 := hB3_1.ext e4_6
  have h0 := hB4_6
  refine L (D_storeA Tryz.sizeOf34 hB4_6 rfl rfl rfl rfl rfl (l' := (Sg.zero).l) rfl (fun w4_7 k4_7 hB4_6 => ?_))
  replace hE := hE.kp k4_7 lB4_6
  replace hB2_0 := hB2_0.kp k4_7 nB2_0B4_6
  replace hB3_1 := hB3_1.kp k4_7 nB3_1B4_6
  refine L (D_v (R_assign rfl) ?_)
  refine S_nil ?_
  refine T_tn ?_
  refine wp_seq ?_
  refine W_region ?_
  refine L (D_v (R_move rfl) ?_)
  refine L (D_v (R_not rfl) ?_)
  refine L (D_v (R_move rfl) ?_)
  refine L (D_v (R_cast (v' := .bool true) (R_pick rfl rfl rfl) rfl) ?_)
  refine L (D_v (R_move rfl) ?_)
  refine L (D_on rfl rfl (D_v (R_loadA (c := ((⟨3, 0, 1, 0, 1, 0, Nm.zero, Nm.zero⟩ : Vt)).l) Tryz.isAgg31 Tryz.sizeOf31 hB3_1 rfl rfl rfl) ?_))
  refine L (D_on rfl rfl (D_v (R_buildS (vs := [(0, .agg ((⟨3, 0, 1, 0, 1, 0, Nm.zero, Nm.zero⟩ : Vt)).l.toArray)]) (c := (mkSg ((⟨3, 0, 1, 0, 1, 0, Nm.zero, Nm.zero⟩ : Vt)) (.slice none 0 0) []).l) Tryz.runUnderlying34 places53 Tryz.zeroValue34 (mapp1 rfl) (fill53z _)) ?_))
  refine L (D_on rfl rfl (D_v (R_loadA (c := ((⟨3, 0, 1, 0, 1, 0, Nm.zero, Nm.zero⟩ : Vt)).l) Tryz.isAgg31 Tryz.sizeOf31 hB3_1 rfl rfl rfl) ?_))
  refine L (D_on rfl rfl (D_buildB (vs := [(0, u8 (1))]) (b := [1]) Tryz.underlying32 Tryz.sizeOf5 Tryz.zeroValue5 rfl (fillB1 _) rfl rfl rfl (fun v5_8 w5_8 o5_8 e5_8 => ?_)))
  replace o5_8 := o5_8.lo hE.size
  replace hE := hE.trans e5_8
  replace hB3_1 := hB3_1.ext e5_8
  have k5_9 : Sg.okf w.heap.size w5_8 (mkSg ((⟨3, 0, 1, 0, 1, 0, Nm.zero, Nm.zero⟩ : Vt)) v5_8 [1]) := mkSg_ok _ (Bf.own o5_8)
  refine L (D_on rfl rfl (D_v (R_buildS (vs := [(0, .agg ((⟨3, 0, 1, 0, 1, 0, Nm.zero, Nm.zero⟩ : Vt)).l.toArray), (1, v5_8)]) (c := (mkSg ((⟨3, 0, 1, 0, 1, 0, Nm.zero, Nm.zero⟩ : Vt)) v5_8 [1]).l) Tryz.runUnderlying34 places53 Tryz.zeroValue34 (mapp2 rfl rfl) (fill53 _ o5_8.bs)) ?_))
  refine L (D_on rfl rfl (D_buildL2 (C := cS) (lo := w.heap.size) (y := (mkSg ((⟨3, 0, 1, 0, 1, 0, Nm.zero, Nm.zero⟩ : Vt)) (.slice none 0 0) [])) (y2 := (mkSg ((⟨3, 0, 1, 0, 1, 0, Nm.zero, Nm.zero⟩ : Vt)) v5_8 [1])) Tryz.underlying23 Tryz.sizeOf34 Tryz.zeroValue34 (mapp2 rfl rfl) (by decide) (mkSg_ok _ (Bf.nil _ _)) k5_9 (fun v5_10 w5_10 o5_10 e5_10 => ?_)))
  replace o5_10 := o5_10.low hE.size
  replace hE := hE.trans e5_10
  replace hB3_1 := hB3_1.ext e5_10
  replace o5_8 := o5_8.ext e5_10
  replace k5_9 := k5_9.fb (Fb.ext e5_10)
  refine L (D_on rfl rfl (D_callE (R_callF Tryz.call24 rfl rfl) (c57 w.heap.size v5_10 ([(mkSg ((⟨3, 0, 1, 0, 1, 0, Nm.zero, Nm.zero⟩ : Vt)) (.slice none 0 0) []), (mkSg ((⟨3, 0, 1, 0, 1, 0, Nm.zero, Nm.zero⟩ : Vt)) v5_8 [1])]) _ (Nat.le_trans (Nat.le_refl _) hE.size) (by (try simp only [List.length_take, List.length_drop, List.length_append, List.length_cons, List.length_nil, List.length_replicate, List.length_set, Nm.b_len, be2_len]); omega) o5_10.ls two_sig) (fun v5_11 w5_11 e5_11 p5_11 => ?_)))
  obtain ⟨y5_11, o5_11, zz5_11, za5_11, zb5_11, zc5_11, zd5_11⟩ := p5_11
  have zv5_10_v5_11 := own_apart o5_10.1 o5_11.1
  have zv5_11_v5_10 := fun k hk hk2 => zv5_10_v5_11 k hk2 hk
  replace o5_11 := o5_11.low hE.size
  replace hE := hE.trans e5_11
  replace hB3_1 := hB3_1.ext e5_11
  replace o5_8 := o5_8.ext e5_11
  replace o5_10 := o5_10.ext e5_11
  replace k5_9 := k5_9.fb (Fb.ext e5_11)
  refine L (D_on rfl rfl (D_v (R_len Tryz.underlying23 rfl o5_11.ls.1) ?_))
  refine L (D_on rfl rfl (D_v (R_eqlI rfl rfl) ?_))
  refine L (D_v (R_pick rfl rfl rfl) ?_)
  refine L (D_v (R_assign rfl) ?_)
  refine S_nil ?_
  refine T_tn ?_
  refine wp_ret ?_
  have hcan := can_of zc5_11 zb5_11 zd5_11
  have hone := can_one hcan
  refine ret1 (v := .bool _) rfl rfl ⟨congrArg (fun b => Ending.returned (Value.bool b)) ?_, hE⟩
  simp [hone]
end Go.Proofs.YteeopgpgbdhmhaaGreat
namespace Go.Proofs.YteeopgpgbdhmhaaGreat
open Go.RowKit
set_option linter.unusedVariables false
def startN (seed : Nm) (c : Nat) : Nm := hashB (32 :: (seed.b ++ [by8 ((c : Nat) : Int)]))
def oneL (seed : Nm) : List Nm := (List.range 18).map fun c => wk c 15 0 (startN seed c)
def onePub (seed : Nm) : Nm := pubE (oneL seed)
def oneSig (seed m : Nm) : List Nm := (List.range 18).map fun c => wk c ((digits m).getD c 0) 0 (startN seed c)
def keyN (seed : Nm) (lv t j : Nat) : Nm := hashB (48 :: (seed.b ++ [by8 ((lv : Nat) : Int)] ++ [by8 (((t : Nat) : Int) / 2 ^ 8), by8 ((t : Nat) : Int)] ++ [by8 ((j : Nat) : Int)]))
def leavesN (seed : Nm) (lv t : Nat) : List Nm := (List.range 32).map fun j => onePub (keyN seed lv t j)
def mroot : Nat → List Nm → Nm
  | 0, _ => Nm.zero
  | f + 1, l => if l.length = 0 then hashB [16] else if l.length = 1 then leafH (l.getD 0 Nm.zero) else pairH 18 (mroot f (l.take (split l.length))) (mroot f (l.drop (split l.length)))
def mpath : Nat → List Nm → Nat → List Nm
  | 0, _, _ => []
  | f + 1, l, i => if l.length = 1 then [] else if i < split l.length then mpath f (l.take (split l.length)) i ++ [mroot f (l.drop (split l.length))] else mpath f (l.drop (split l.length)) (i - split l.length) ++ [mroot f (l.take (split l.length))]
theorem mroot_one {f : Nat} {l : List Nm} (h : l.length = 1) : mroot (f + 1) l = leafH (l.getD 0 Nm.zero) := by unfold mroot; rw [if_neg (by omega), if_pos h]
theorem mroot_two {f : Nat} {l : List Nm} (h0 : l.length ≠ 0) (h1 : l.length ≠ 1) : mroot (f + 1) l = pairH 18 (mroot f (l.take (split l.length))) (mroot f (l.drop (split l.length))) := by rw [mroot, if_neg h0, if_neg h1]
theorem mpath_one {f : Nat} {l : List Nm} {i : Nat} (h : l.length = 1) : mpath (f + 1) l i = [] := by rw [mpath, if_pos h]
theorem mpath_lo {f : Nat} {l : List Nm} {i : Nat} (h : l.length ≠ 1) (hi : i < split l.length) : mpath (f + 1) l i = mpath f (l.take (split l.length)) i ++ [mroot f (l.drop (split l.length))] := by rw [mpath, if_neg h, if_pos hi]
theorem mpath_hi {f : Nat} {l : List Nm} {i : Nat} (h : l.length ≠ 1) (hi : ¬ i < split l.length) : mpath (f + 1) l i = mpath f (l.drop (split l.length)) (i - split l.length) ++ [mroot f (l.take (split l.length))] := by rw [mpath, if_neg h, if_neg hi]
theorem mpath_len : ∀ (f : Nat) (l : List Nm) (i : Nat), l.length ≤ f → i < l.length → (mpath f l i).length = dep f i l.length
  | 0, l, i, h, hi => by omega
  | f + 1, l, i, h, hi => by
    by_cases h1 : l.length = 1
    · rw [mpath_one h1, h1, dep_end (by omega)]; rfl
    · have hs := split_bound (n := l.length) (by omega)
      by_cases hlo : i < split l.length
      · have ht : (l.take (split l.length)).length = split l.length := by rw [List.length_take]; omega
        rw [mpath_lo h1 hlo, dep_lo (by omega) hlo, List.length_append, mpath_len f _ i (by omega) (by omega), ht]; rfl
      · have ht : (l.drop (split l.length)).length = l.length - split l.length := by rw [List.length_drop]
        rw [mpath_hi h1 hlo, dep_hi (by omega) hlo, List.length_append, mpath_len f _ _ (by omega) (by omega), ht]; rfl
theorem mpath_ln {f : Nat} {l : List Nm} {i : Nat} (h : l.length ≤ f) (hi : i < l.length) : (mpath f l i).length ≤ l.length := by
  rw [mpath_len f l i h hi]; exact dep_le_n _ _ _
theorem climb_root : ∀ (f : Nat) (l : List Nm) (i : Nat), l.length ≤ f → i < l.length → cmp f (l.getD i Nm.zero) i l.length (mpath f l i) = mroot f l
  | 0, l, i, h, hi => by omega
  | f + 1, l, i, h, hi => by
    by_cases h1 : l.length = 1
    · rw [h1, cmp_one, mroot_one h1]
      have : i = 0 := by omega
      subst this; rfl
    · have hs := split_bound (n := l.length) (by omega)
      by_cases hlo : i < split l.length
      · have ht : (l.take (split l.length)).length = split l.length := by rw [List.length_take]; omega
        have ih := climb_root f (l.take (split l.length)) i (by omega) (by omega)
        rw [ht] at ih
        have hg : (l.take (split l.length)).getD i Nm.zero = l.getD i Nm.zero := by rw [List.getD_eq_getElem?_getD, List.getElem?_take, if_pos hlo, ← List.getD_eq_getElem?_getD]
        rw [hg] at ih
        rw [cmp_lo h1 hlo, mroot_two (by omega) h1, mpath_lo h1 hlo]
        have e1 : (mpath f (l.take (split l.length)) i ++ [mroot f (l.drop (split l.length))]).length - 1 = (mpath f (l.take (split l.length)) i).length := by simp
        rw [e1, List.take_left, ih]
        congr 1
        rw [List.getD_eq_getElem?_getD, List.getElem?_append_right (Nat.le_refl _), Nat.sub_self]; rfl
      · have ht : (l.drop (split l.length)).length = l.length - split l.length := by rw [List.length_drop]
        have ih := climb_root f (l.drop (split l.length)) (i - split l.length) (by omega) (by omega)
        rw [ht] at ih
        have hg : (l.drop (split l.length)).getD (i - split l.length) Nm.zero = l.getD i Nm.zero := by rw [List.getD_eq_getElem?_getD, List.getElem?_drop, show split l.length + (i - split l.length) = i by omega, ← List.getD_eq_getElem?_getD]
        rw [hg] at ih
        rw [cmp_hi h1 hlo, mroot_two (by omega) h1, mpath_hi h1 hlo]
        have e1 : (mpath f (l.drop (split l.length)) (i - split l.length) ++ [mroot f (l.take (split l.length))]).length - 1 = (mpath f (l.drop (split l.length)) (i - split l.length)).length := by simp
        rw [e1, List.take_left, ih]
        congr 1
        rw [List.getD_eq_getElem?_getD, List.getElem?_append_right (Nat.le_refl _), Nat.sub_self]; rfl
theorem itr_add {α : Type} (F : Nat → α → α) : ∀ (k j p : Nat) (v : α), itr F (j + k) p v = itr F k (p + j) (itr F j p v)
  | k, 0, p, v => by rw [Nat.zero_add, itr_zero, Nat.add_zero]
  | k, j + 1, p, v => by rw [show j + 1 + k = (j + k) + 1 by omega, itr_succ, itr_succ, itr_add F k j (p + 1)]; congr 1; omega
theorem wk_add (c k j p : Nat) (v : Nm) : wk c (j + k) p v = wk c k (p + j) (wk c j p v) := itr_add _ k j p v
theorem oneSig_at (seed m : Nm) {c : Nat} (hc : c < 18) : (oneSig seed m)[c]? = some (wk c ((digits m).getD c 0) 0 (startN seed c)) := by
  unfold oneSig; rw [List.getElem?_map, List.getElem?_range hc]; rfl
theorem oneL_at (seed : Nm) {c : Nat} (hc : c < 18) : (oneL seed)[c]? = some (wk c 15 0 (startN seed c)) := by
  unfold oneL; rw [List.getElem?_map, List.getElem?_range hc]; rfl
theorem oneSig_len (seed m : Nm) : (oneSig seed m).length = 18 := by unfold oneSig; rw [List.length_map, List.length_range]
theorem oneL_len (seed : Nm) : (oneL seed).length = 18 := by unfold oneL; rw [List.length_map, List.length_range]
theorem leavesN_len (seed : Nm) (lv t : Nat) : (leavesN seed lv t).length = 32 := by unfold leavesN; rw [List.length_map, List.length_range]
theorem leavesN_at (seed : Nm) (lv t : Nat) {j : Nat} (hj : j < 32) : (leavesN seed lv t)[j]? = some (onePub (keyN seed lv t j)) := by
  unfold leavesN; rw [List.getElem?_map, List.getElem?_range hj]; rfl
theorem rec_sig (seed m : Nm) : recN m (oneSig seed m) = onePub seed := by
  unfold recN onePub
  congr 1
  apply List.ext_getElem?
  intro c
  by_cases hc : c < 18
  · have hg : (oneSig seed m).getD c Nm.zero = wk c ((digits m).getD c 0) 0 (startN seed c) := by rw [List.getD_eq_getElem?_getD, oneSig_at seed m hc]; rfl
    rw [recL_at m _ hc, oneL_at seed hc, hg]
    have hd := digit_le m c
    have := wk_add c (15 - (digits m).getD c 0) ((digits m).getD c 0) 0 (startN seed c)
    rw [Nat.zero_add, show (digits m).getD c 0 + (15 - (digits m).getD c 0) = 15 by omega] at this
    exact congrArg some this.symm
  · rw [List.getElem?_eq_none (by rw [recL_len]; omega), List.getElem?_eq_none (by rw [oneL_len]; omega)]
theorem nmAt_here (p : List UInt8) (x : Nm) (t : List UInt8) : nmAt (p ++ (x.b ++ t)) p.length = x := by
  have h : ∀ k, (p ++ (x.b ++ t)).getD (p.length + k) 0 = (x.b ++ t).getD k 0 := fun k => by
    rw [List.getD_eq_getElem?_getD, List.getElem?_append_right (by omega), Nat.add_sub_cancel_left, ← List.getD_eq_getElem?_getD]
  unfold nmAt
  have h0 := h 0
  rw [Nat.add_zero] at h0
  rw [h0, h 1, h 2, h 3, h 4, h 5, h 6, h 7]
  rfl
theorem nms_here : ∀ (es : List Nm) (p t : List UInt8), nmsAt (p ++ (es.flatMap Nm.b ++ t)) p.length es.length = es := by
  intro es p t
  apply List.ext_getElem?
  intro i
  by_cases hi : i < es.length
  · rw [nmsAt_at _ _ _ hi, List.getElem?_eq_getElem hi]
    congr 1
    have hsp : es = es.take i ++ es[i] :: es.drop (i + 1) := by rw [← List.drop_eq_getElem_cons hi, List.take_append_drop]
    have hfl : es.flatMap Nm.b = (es.take i).flatMap Nm.b ++ (es[i].b ++ (es.drop (i + 1)).flatMap Nm.b) := by
      conv => lhs; rw [hsp]
      rw [List.flatMap_append, List.flatMap_cons]
    have hl : (p ++ (es.take i).flatMap Nm.b).length = p.length + i * 8 := by
      rw [List.length_append, flat_len, List.length_take, Nat.min_eq_left (by omega)]
    rw [hfl, ← hl, ← List.append_assoc, ← List.append_assoc p, List.append_assoc, List.append_assoc, List.append_assoc (es[i]).b]
    rw [← List.append_assoc p]
    exact nmAt_here _ _ _
  · rw [List.getElem?_eq_none (by rw [nmsAt_len]; omega), List.getElem?_eq_none (by omega)]
def partN (seed : Nm) (lv t j : Nat) (m : Nm) : List UInt8 := (oneSig (keyN seed lv t j) m).flatMap Nm.b ++ (mpath 32 (leavesN seed lv t) j).flatMap Nm.b
theorem mpath5 (seed : Nm) (lv t : Nat) {j : Nat} (hj : j < 32) : (mpath 32 (leavesN seed lv t) j).length = 5 := by
  rw [mpath_len _ _ _ (by rw [leavesN_len]; omega) (by rw [leavesN_len]; exact hj), leavesN_len, dep32 j hj]
theorem partN_len (seed : Nm) (lv t : Nat) {j : Nat} (m : Nm) (hj : j < 32) : (partN seed lv t j m).length = 184 := by
  unfold partN; rw [List.length_append, flat_len, flat_len, oneSig_len, mpath5 seed lv t hj]
theorem clim_part (seed : Nm) (lv t : Nat) {j : Nat} (m : Nm) (hj : j < 32) (p u : List UInt8) : clim (p ++ (partN seed lv t j m ++ u)) p.length j m = mroot 32 (leavesN seed lv t) := by
  unfold clim
  have e1 : nmsAt (p ++ (partN seed lv t j m ++ u)) p.length 18 = oneSig (keyN seed lv t j) m := by
    have := nms_here (oneSig (keyN seed lv t j) m) p ((mpath 32 (leavesN seed lv t) j).flatMap Nm.b ++ u)
    rw [oneSig_len] at this
    unfold partN; rw [List.append_assoc]; exact this
  have e2 : nmsAt (p ++ (partN seed lv t j m ++ u)) (p.length + 144) 5 = mpath 32 (leavesN seed lv t) j := by
    have := nms_here (mpath 32 (leavesN seed lv t) j) (p ++ (oneSig (keyN seed lv t j) m).flatMap Nm.b) u
    rw [mpath5 seed lv t hj, List.length_append, flat_len, oneSig_len] at this
    unfold partN; rw [List.append_assoc, ← List.append_assoc p]; exact this
  rw [e1, e2, rec_sig]
  have h := climb_root 32 (leavesN seed lv t) j (by rw [leavesN_len]; omega) (by rw [leavesN_len]; exact hj)
  rw [leavesN_len] at h
  have hg : (leavesN seed lv t).getD j Nm.zero = onePub (keyN seed lv t j) := by rw [List.getD_eq_getElem?_getD, leavesN_at seed lv t hj]; rfl
  rw [hg] at h; exact h
def sigN (seed : Nm) (leaf : Nat) (m : Nm) : List UInt8 := [by8 (((leaf : Nat) : Int) / 2 ^ 8), by8 ((leaf : Nat) : Int)] ++ (partN seed 1 (leaf / 32) (leaf % 32) m ++ partN seed 2 0 (leaf / 32) (mroot 32 (leavesN seed 1 (leaf / 32))))
def pubN (seed : Nm) : Nm := mroot 32 (leavesN seed 2 0)
theorem sigN_len (seed : Nm) {leaf : Nat} (m : Nm) (h : leaf < 1024) : (sigN seed leaf m).length = 370 := by
  unfold sigN
  rw [List.length_append, List.length_append, partN_len seed 1 _ m (by omega), partN_len seed 2 0 _ (by omega)]; rfl
theorem sigN_leaf (seed : Nm) {leaf : Nat} (m : Nm) (h : leaf < 1024) : leafNo (sigN seed leaf m) = leaf := by
  unfold leafNo
  show (by8 (((leaf : Nat) : Int) / 2 ^ 8)).toNat * 256 + (by8 ((leaf : Nat) : Int)).toNat = leaf
  have h1 := by8_toNat (((leaf : Nat) : Int) / 2 ^ 8)
  have h2 := by8_toNat ((leaf : Nat) : Int)
  omega
theorem ver_sig (seed : Nm) {leaf : Nat} (m : Nm) (h : leaf < 1024) : ver (pubN seed) m (sigN seed leaf m) = true := by
  unfold ver
  rw [sigN_len seed m h, sigN_leaf seed m h, decide_eq_true (show 370 = 370 from rfl), decide_eq_true h, Bool.true_and, Bool.true_and]
  refine decide_eq_true ?_
  have e1 : clim (sigN seed leaf m) 2 (leaf % 32) m = mroot 32 (leavesN seed 1 (leaf / 32)) :=
    clim_part seed 1 (leaf / 32) m (by omega) [by8 (((leaf : Nat) : Int) / 2 ^ 8), by8 ((leaf : Nat) : Int)] _
  rw [e1]
  have e2 := clim_part seed 2 0 (j := leaf / 32) (mroot 32 (leavesN seed 1 (leaf / 32))) (by omega) ([by8 (((leaf : Nat) : Int) / 2 ^ 8), by8 ((leaf : Nat) : Int)] ++ partN seed 1 (leaf / 32) (leaf % 32) m) []
  rw [List.append_nil, List.length_append, partN_len seed 1 _ m (by omega)] at e2
  unfold sigN
  rw [← List.append_assoc]
  exact e2
end Go.Proofs.YteeopgpgbdhmhaaGreat
namespace Go.Proofs.YteeopgpgbdhmhaaGreat
open Go.RowKit Go.Lib
set_option linter.unusedVariables false
set_option linter.unusedSimpArgs false
theorem fillB4 (b0 b1 b2 b3 : UInt8) : Instr.fill (fun i => some (i * 1, 1)) ((Array.range (4 * 1)).map fun x => [Value.int .u8 0][x % [Value.int .u8 0].length]?.getD default) [(0, u8 b0), (1, u8 b1), (2, u8 b2), (3, u8 b3)] = some (bl [b0, b1, b2, b3]).toArray := by
  have : (Array.range (4 * 1)) = #[0, 1, 2, 3] := by decide
  rw [this]
  simp [Instr.fill, u8, Value.cells, bl]
theorem cutn_lo {α : Type} (l : List α) (k : Nat) : ((l.drop 0).take (k - 0)) = l.take k := by rw [List.drop_zero, Nat.sub_zero]
theorem cutn_hi {α : Type} (l : List α) (k : Nat) : ((l.drop k).take (l.length - k)) = l.drop k := List.take_of_length_le (by rw [List.length_drop]; exact Nat.le_refl _)
section
variable {P : Program} {ρ : Operand → Value} {w : World} {dst : Option Tmp} {ty : TypeId} {pos : String} {aft : Array Edge} {gd : Option (Nat × Bool)}
end
section
variable {α : Type} {C : Cd α} {P : Program} {ops : Array Oper} {Q : Exit → Act → World → Prop} {K : Act → World → Prop} {n : Nat} {f : Nat → Value} {w : World} {d : Option Tmp} {ty : TypeId} {pos : String} {aft : Array Edge}
theorem D_appendB2 {lo : Nat} {t : TypeId} {s x : Operand} {v u : Value} {xs news : List UInt8} (hI : ElT P 5 1 1) (ht : P.underlying t = some (.slice 5)) (hs : ov n f s = v) (hx : ov n f x = u) (ho : OwnB w lo v xs) (hu : Bs w u news)
    (hb : xs.length + news.length ≤ 140737488355328) (hlo : lo ≤ w.heap.size)
    (h : ∀ v' w', OwnB w' lo v' (xs ++ news) → w.grownBy w' v.ownBlock → (∀ k, v'.ownBlock = some k → v.ownBlock = some k ∨ w.heap.size ≤ k) → K (E n (upo f d v')) w') :
    wpO P ops Q ⟨d, .call ⟨.builtin .append, #[s, x], #[t, t]⟩, ty, pos, aft, none⟩ K (E n f) w := by
  obtain ⟨v', w', h1, h2, h3, h4⟩ := run_append2 (ty := ty) hI (by decide) ht ho hu (bl_plain _) (by omega) (by omega) hlo
  refine D_v (v := v') (w' := w') ?_ (h v' w' (OwnB.of h2 (by simp) (bl_app _ _).symm) h3 h4)
  simp only [execOp, resolve, invoke, builtin, Sem.run_bind, Sem.run_pure, Result.andThen_ok, List.map_toArray, List.map_cons, List.map_nil, hs, hx, h1]
end
end Go.Proofs.YteeopgpgbdhmhaaGreat
namespace Go.Proofs.YteeopgpgbdhmhaaGreat
open Go.RowKit
set_option linter.unusedVariables false
set_option linter.unusedSimpArgs false
attribute [local irreducible] wpList wpO H wpQuiet wpStill Code.wp Exit.then Exit.inBlock bodyPost Code.rounds Calls valid sameKey lessV hless num between
set_option maxRecDepth 4000 in
set_option maxHeartbeats 1000000 in
theorem c145 (n : Nm) (c : Nat) (w : World) : Calls Tryz.prog 90 [n.v, i64 ((c : Nat) : Int)].toArray w (Ret w (startN n c).v) := by
  refine enter Tryz.func90 Tryz.ntmps90 rfl rfl ?_
  have hE := Ext.refl w
  refine wp_seq ?_
  refine W_region ?_
  refine L (D_box (c := (n).l) (rfl) (fun aB1_0 w1_0 e1_0 gB1_0 hB1_0 => ?_))
  have lB1_0 := Nat.le_trans hE.size gB1_0
  replace hE := hE.trans e1_0
  refine L (D_alloc (c := (Nm.zero).l) Tryz.zeroValue29 rfl (fun aB1_1 w1_1 e1_1 gB1_1 hB1_1 => ?_))
  have lB1_1 := Nat.le_trans hE.size gB1_1
  have nB1_0B1_1 := hB1_0.ne gB1_1
  replace hE := hE.trans e1_1
  replace hB1_0 := hB1_0.ext e1_1
  refine S_nil ?_
  refine T_tn ?_
  refine wp_seq ?_
  refine W_region ?_
  refine L (D_build0 Tryz.underlying32 Tryz.sizeOf5 (fun v2_0 w2_0 o2_0 e2_0 => ?_))
  replace o2_0 := o2_0.lo hE.size
  replace hE := hE.trans e2_0
  replace hB1_0 := hB1_0.ext e2_0
  replace hB1_1 := hB1_1.ext e2_0
  refine L (D_v (R_sliceArr (len := 7) Tryz.underlying29 Tryz.sizeOf5 rfl) ?_)
  refine L (D_appendB elt5 Tryz.underlying32 rfl rfl o2_0 (hB1_0.bs 0 (n).b rfl rfl rfl) (by (try simp only [List.length_take, List.length_drop, List.length_append, List.length_cons, List.length_nil, List.length_replicate, List.length_set, Nm.b_len, be2_len]); omega) hE.size (fun v2_2 w2_2 o2_2 g2_2 => ?_))
  replace hE := hE.grown g2_2 (fun k hk => own_ge o2_0 hk)
  replace hB1_0 := hB1_0.grown g2_2 (own_neB o2_0 hB1_0 rfl)
  replace hB1_1 := hB1_1.grown g2_2 (own_neB o2_0 hB1_1 rfl)
  refine L (D_v (R_move rfl) ?_)
  refine L (D_v (R_convB Tryz.runUnderlying3 rfl) ?_)
  refine L (D_buildB (vs := [(0, u8 (by8 (((c : Nat) : Int))))]) (b := [(by8 (((c : Nat) : Int)))]) Tryz.underlying32 Tryz.sizeOf5 Tryz.zeroValue5 rfl (fillB1 _) rfl rfl rfl (fun v2_5 w2_5 o2_5 e2_5 => ?_))
  have zv2_2_v2_5 := own_apart o2_2 o2_5
  have zv2_5_v2_2 := fun k hk hk2 => zv2_2_v2_5 k hk2 hk
  replace o2_5 := o2_5.lo hE.size
  replace hE := hE.trans e2_5
  replace hB1_0 := hB1_0.ext e2_5
  replace hB1_1 := hB1_1.ext e2_5
  replace o2_2 := o2_2.ext e2_5
  refine L (D_appendB elt5 Tryz.underlying32 rfl rfl o2_2 o2_5.bs (by (try simp only [List.length_take, List.length_drop, List.length_append, List.length_cons, List.length_nil, List.length_replicate, List.length_set, Nm.b_len, be2_len]); omega) hE.size (fun v2_6 w2_6 o2_6 g2_6 => ?_))
  replace hE := hE.grown g2_6 (fun k hk => own_ge o2_2 hk)
  replace hB1_0 := hB1_0.grown g2_6 (own_neB o2_2 hB1_0 rfl)
  replace hB1_1 := hB1_1.grown g2_6 (own_neB o2_2 hB1_1 rfl)
  replace o2_5 := o2_5.grown g2_6 (zv2_5_v2_2)
  refine L (D_call (R_callF Tryz.call60 rfl rfl) (c88 (32) v2_6 ((([] ++ (n).b) ++ [(by8 (((c : Nat) : Int)))])) _ o2_6.bs (by (try simp only [List.length_take, List.length_drop, List.length_append, List.length_cons, List.length_nil, List.length_replicate, List.length_set, Nm.b_len, be2_len]); omega)) (fun w2_7 e2_7 => ?_))
  replace hE := hE.trans e2_7
  replace hB1_0 := hB1_0.ext e2_7
  replace hB1_1 := hB1_1.ext e2_7
  replace o2_5 := o2_5.ext e2_7
  replace o2_6 := o2_6.ext e2_7
  have xo2_5 := own_neB o2_5 hB1_1 rfl
  have xo2_6 := own_neB o2_6 hB1_1 rfl
  have h0 := hB1_1
  refine L (D_storeA Tryz.sizeOf29 hB1_1 rfl rfl rfl rfl rfl (l' := ((hashB (32 :: (([] ++ (n).b) ++ [(by8 (((c : Nat) : Int)))])))).l) rfl (fun w2_8 k2_8 hB1_1 => ?_))
  replace hE := hE.kp k2_8 lB1_1
  replace hB1_0 := hB1_0.kp k2_8 nB1_0B1_1
  replace o2_5 := o2_5.kp k2_8 xo2_5
  replace o2_6 := o2_6.kp k2_8 xo2_6
  refine S_nil ?_
  refine T_tn ?_
  refine wp_ret ?_
  refine retc (c := ((hashB (32 :: (([] ++ (n).b) ++ [(by8 (((c : Nat) : Int)))])))).l) rfl rfl Tryz.isAgg29 Tryz.sizeOf29 hB1_1 rfl rfl ⟨?_, hE⟩
  rfl
set_option maxRecDepth 4000 in
set_option maxHeartbeats 2000000 in
theorem c142 (n : Nm) (w : World) : Calls Tryz.prog 63 [n.v].toArray w (Ret w (onePub n).v) := by
  refine enter Tryz.func63 Tryz.ntmps63 rfl rfl ?_
  have hE := Ext.refl w
  refine wp_seq ?_
  refine W_region ?_
  refine L (D_box (c := (n).l) (rfl) (fun aB1_0 w1_0 e1_0 gB1_0 hB1_0 => ?_))
  have lB1_0 := Nat.le_trans hE.size gB1_0
  replace hE := hE.trans e1_0
  refine L (D_alloc (c := (Nm.zero).l) Tryz.zeroValue29 rfl (fun aB1_1 w1_1 e1_1 gB1_1 hB1_1 => ?_))
  have lB1_1 := Nat.le_trans hE.size gB1_1
  have nB1_0B1_1 := hB1_0.ne gB1_1
  replace hE := hE.trans e1_1
  replace hB1_0 := hB1_0.ext e1_1
  refine S_nil ?_
  refine T_tn ?_
  refine wp_seq ?_
  refine W_region ?_
  refine L (D_v (R_assign rfl) ?_)
  refine S_nil ?_
  refine T_tn ?_
  refine wp_seq ?_
  refine wp_seq ?_
  refine W_region ?_
  refine L (D_v (R_assign rfl) ?_)
  refine S_nil ?_
  refine T_tn ?_
  refine wp_block ?_
  refine W_loop (fun mz g W => ∃ (es : List Nm) (c : Nat) (r3 : Value), mz = 18 - c ∧ g 1 = .pointer (some ⟨aB1_0, 0, none⟩) ∧ g 2 = .pointer (some ⟨aB1_1, 0, none⟩) ∧ g 3 = r3 ∧ g 4 = i64 ((c : Nat) : Int) ∧ Ext w W ∧ Blk W aB1_0 (n).l 29 ∧ Blk W aB1_1 (Nm.zero).l 29 ∧ Ow cN w.heap.size w.heap.size W r3 es ∧ Value.ownBlock r3 ≠ some aB1_0 ∧ Value.ownBlock r3 ≠ some aB1_1 ∧ c ≤ 18 ∧ es = (oneL n).take c) ⟨[], 0, _, rfl, rfl, rfl, rfl, rfl, hE, hB1_0, hB1_1, (Ow.nil cN w.heap.size _ _), (fun h => nomatch (show (none : Option Nat) = some _ from h)), (fun h => nomatch (show (none : Option Nat) = some _ from h)), (Nat.zero_le _), (by simp)⟩ ?_
  rintro mz f4 w4l ⟨es, c, r3, hm, q1, q2, q3, q4, hE, hB1_0, hB1_1, or3, yr3_B1_0, yr3_B1_1, hc, he⟩
  have hel : es.length ≤ 18 := by rw [he, List.length_take]; omega
  refine wp_seq ?_
  refine wp_seq ?_
  refine W_region ?_
  refine L (D_v (R_move q4) ?_)
  refine L (D_v (R_lssI rfl rfl) ?_)
  refine S_nil ?_
  refine T_tn ?_
  refine W_if rfl (fun c1 => ?_) (fun c1 => ?_)
  ·
    have lk : c < 18 := by have h1 := of_decide_eq_true c1; (try rw [digits_len] at h1); omega
    refine wp_skip ?_
    refine T_tn ?_
    refine wp_seq ?_
    refine wp_block ?_
    refine W_region ?_
    refine L (D_v (R_move q3) ?_)
    refine L (D_v (R_loadA (c := (n).l) Tryz.isAgg29 Tryz.sizeOf29 hB1_0 q1 rfl rfl) ?_)
    refine L (D_v (R_move q4) ?_)
    refine L (D_call (R_callF Tryz.call90 rfl rfl) (c145 (n) (c) _) (fun w6_3 e6_3 => ?_))
    replace hE := hE.trans e6_3
    replace hB1_0 := hB1_0.ext e6_3
    replace hB1_1 := hB1_1.ext e6_3
    replace or3 := or3.ext e6_3
    refine L (D_v (R_move q4) ?_)
    refine L (D_call (R_callF Tryz.call89 rfl rfl) (c144 ((startN n (c))) (c) (0) (15) _ (by omega) (by omega) (by omega)) (fun w6_5 e6_5 => ?_))
    replace hE := hE.trans e6_5
    replace hB1_0 := hB1_0.ext e6_5
    replace hB1_1 := hB1_1.ext e6_5
    replace or3 := or3.ext e6_5
    refine L (D_buildL1 (C := cN) (lo := w.heap.size) (y := (wk (c) (15 - 0) (0) (startN n (c)))) Tryz.underlying22 Tryz.sizeOf29 Tryz.zeroValue29 (mapp1 rfl) (by decide) trivial (fun v6_6 w6_6 o6_6 e6_6 => ?_))
    have yv6_6_B1_0 : Value.ownBlock v6_6 ≠ some aB1_0 := fun hk => absurd (own_ge o6_6.1 hk) (Nat.not_le.2 hB1_0.lt)
    have yv6_6_B1_1 : Value.ownBlock v6_6 ≠ some aB1_1 := fun hk => absurd (own_ge o6_6.1 hk) (Nat.not_le.2 hB1_1.lt)
    have zr3_v6_6 := own_apart or3.1 o6_6.1
    have zv6_6_r3 := fun k hk hk2 => zr3_v6_6 k hk2 hk
    replace o6_6 := o6_6.low hE.size
    replace hE := hE.trans e6_6
    replace hB1_0 := hB1_0.ext e6_6
    replace hB1_1 := hB1_1.ext e6_6
    replace or3 := or3.ext e6_6
    refine L (D_appendL elt24 Tryz.underlying22 rfl rfl or3 (Nat.le_refl _) o6_6.ls (by (try simp only [List.length_take, List.length_drop, List.length_append, List.length_cons, List.length_nil, List.length_replicate, List.length_set, Nm.b_len, be2_len]); omega) (by (try simp only [List.length_take, List.length_drop, List.length_append, List.length_cons, List.length_nil, List.length_replicate, List.length_set, Nm.b_len, be2_len]); omega) hE.size (fun v6_7 w6_7 o6_7 g6_7 f6_7 sv6_7 => ?_))
    have yv6_7_B1_0 : Value.ownBlock v6_7 ≠ some aB1_0 := fun hk => (sv6_7 _ hk).elim yr3_B1_0 (fun h => absurd h (Nat.not_le.2 hB1_0.lt))
    have yv6_7_B1_1 : Value.ownBlock v6_7 ≠ some aB1_1 := fun hk => (sv6_7 _ hk).elim yr3_B1_1 (fun h => absurd h (Nat.not_le.2 hB1_1.lt))
    have zv6_6_v6_7 : ∀ k, Value.ownBlock v6_6 = some k → Value.ownBlock v6_7 ≠ some k := fun k hk2 hk => (sv6_7 _ hk).elim (fun h => zv6_6_r3 k hk2 h) (fun h => absurd h (Nat.not_le.2 (own_lt o6_6.1 hk2)))
    have zv6_7_v6_6 := fun k hk hk2 => zv6_6_v6_7 k hk2 hk
    replace hE := hE.grown g6_7 (fun k hk => own_ge or3.1 hk)
    replace hB1_0 := hB1_0.grown g6_7 (yr3_B1_0)
    replace hB1_1 := hB1_1.grown g6_7 (yr3_B1_1)
    replace o6_6 := o6_6.grown g6_7 (zv6_6_r3) f6_7
    refine L (D_v (R_assign rfl) ?_)
    refine S_nil ?_
    refine T_bn ?_
    refine T_tn ?_
    refine W_region ?_
    refine L (D_v (R_move q4) ?_)
    refine L (D_v (R_addN (m := c) (j := 1) rfl rfl (by (try simp only [List.length_take, List.length_drop, List.length_append, List.length_cons, List.length_nil, List.length_replicate, List.length_set, Nm.b_len, be2_len]); omega)) ?_)
    refine L (D_v (R_assign rfl) ?_)
    refine S_nil ?_
    refine T_tn ?_
    refine ⟨_, _, ?_, rfl, _, c + 1, _, rfl, q1, q2, rfl, rfl, hE, hB1_0, hB1_1, o6_7, yv6_7_B1_0, yv6_7_B1_1, ?_, ?_⟩
    all_goals first | omega | exact push_next he (oneL_at n lk)
  ·
    have lk : ¬ c < 18 := by have h1 := of_decide_eq_false c1; (try rw [digits_len] at h1); omega
    refine wp_exit ?_
    refine T_te ?_
    refine T_te ?_
    refine T_be ?_
    refine T_tn ?_
    refine wp_seq ?_
    refine W_region ?_
    refine L (D_v (R_move q3) ?_)
    refine L (D_call (R_callF Tryz.call92 rfl rfl) (c174 r3 (es) _ (by (try simp only [List.length_take, List.length_drop, List.length_append, List.length_cons, List.length_nil, List.length_replicate, List.length_set, Nm.b_len, be2_len]); omega) (or3.ls.lev fun _ _ _ => trivial)) (fun w6_1 e6_1 => ?_))
    replace hE := hE.trans e6_1
    replace hB1_1 := hB1_1.ext e6_1
    replace or3 := or3.ext e6_1
    have xor3 := yr3_B1_1
    have h0 := hB1_1
    refine L (D_storeA Tryz.sizeOf29 hB1_1 q2 rfl rfl rfl rfl (l' := ((pubE (es))).l) rfl (fun w6_2 k6_2 hB1_1 => ?_))
    have f6_2 := Fb.kp k6_2 (Nat.le_trans (Nat.le_refl _) lB1_1) (Blk.notB h0 rfl)
    replace hE := hE.kp k6_2 lB1_1
    replace or3 := or3.kp k6_2 xor3 f6_2
    refine S_nil ?_
    refine T_tn ?_
    refine wp_ret ?_
    refine retc (c := ((pubE (es))).l) rfl q2 Tryz.isAgg29 Tryz.sizeOf29 hB1_1 rfl rfl ⟨?_, hE⟩
    obtain rfl : c = 18 := by omega
    have hes : es = oneL n := push_all he (by rw [oneL_len]; omega)
    rw [hes]; rfl
set_option maxRecDepth 4000 in
set_option maxHeartbeats 2000000 in
theorem c122 (n m : Nm) (w : World) : Calls Tryz.prog 57 [n.v, m.v].toArray w (RetE w fun r w' => Ow cN w.heap.size w.heap.size w' r (oneSig n m)) := by
  refine enter Tryz.func57 Tryz.ntmps57 rfl rfl ?_
  have hE := Ext.refl w
  refine wp_seq ?_
  refine W_region ?_
  refine L (D_box (c := (n).l) (rfl) (fun aB1_0 w1_0 e1_0 gB1_0 hB1_0 => ?_))
  have lB1_0 := Nat.le_trans hE.size gB1_0
  replace hE := hE.trans e1_0
  refine L (D_box (c := (m).l) (rfl) (fun aB1_1 w1_1 e1_1 gB1_1 hB1_1 => ?_))
  have lB1_1 := Nat.le_trans hE.size gB1_1
  have nB1_0B1_1 := hB1_0.ne gB1_1
  replace hE := hE.trans e1_1
  replace hB1_0 := hB1_0.ext e1_1
  refine L (D_v (R_assign rfl) ?_)
  refine S_nil ?_
  refine T_tn ?_
  refine wp_seq ?_
  refine W_region ?_
  refine L (D_v (R_loadA (c := (m).l) Tryz.isAgg29 Tryz.sizeOf29 hB1_1 rfl rfl rfl) ?_)
  refine L (D_callE (R_callF Tryz.call88 rfl rfl) (c143 (m) _) (fun v2_1 w2_1 e2_1 p2_1 => ?_))
  have o2_1 := p2_1
  replace o2_1 := o2_1.low hE.size
  replace o2_1 := Ow.lev (lo' := w.heap.size) o2_1 (fun _ _ _ => trivial)
  replace hE := hE.trans e2_1
  replace hB1_0 := hB1_0.ext e2_1
  replace hB1_1 := hB1_1.ext e2_1
  refine L (D_v (R_assign rfl) ?_)
  refine S_nil ?_
  refine T_tn ?_
  refine wp_seq ?_
  refine W_region ?_
  refine L (D_v (R_assign rfl) ?_)
  refine S_nil ?_
  refine T_tn ?_
  refine wp_seq ?_
  refine wp_seq ?_
  refine W_region ?_
  refine L (D_v (R_assign rfl) ?_)
  refine S_nil ?_
  refine T_tn ?_
  refine wp_block ?_
  refine W_loop (fun mz g W => ∃ (es : List Nm) (c : Nat) (r6 : Value), mz = 18 - c ∧ g 2 = .pointer (some ⟨aB1_0, 0, none⟩) ∧ g 5 = v2_1 ∧ g 6 = r6 ∧ g 7 = i64 ((c : Nat) : Int) ∧ Ext w W ∧ Blk W aB1_0 (n).l 29 ∧ Ow cI w.heap.size w.heap.size W v2_1 (digits m) ∧ Ow cN w.heap.size w.heap.size W r6 es ∧ Value.ownBlock r6 ≠ some aB1_0 ∧ c ≤ 18 ∧ es = (oneSig n m).take c) ⟨[], 0, _, rfl, rfl, rfl, rfl, rfl, hE, hB1_0, o2_1, (Ow.nil cN w.heap.size _ _), (fun h => nomatch (show (none : Option Nat) = some _ from h)), (Nat.zero_le _), (by simp)⟩ ?_
  rintro mz f5 w5l ⟨es, c, r6, hm, q2, q5, q6, q7, hE, hB1_0, ov2_1, or6, yr6_B1_0, hc, he⟩
  have hel : es.length ≤ 18 := by rw [he, List.length_take]; omega
  refine wp_seq ?_
  refine wp_seq ?_
  refine W_region ?_
  refine L (D_v (R_move q7) ?_)
  refine L (D_v (R_lssI rfl rfl) ?_)
  refine S_nil ?_
  refine T_tn ?_
  refine W_if rfl (fun c1 => ?_) (fun c1 => ?_)
  ·
    have lk : c < 18 := by have h1 := of_decide_eq_true c1; (try rw [digits_len] at h1); omega
    have hd := digit_le m c
    refine wp_skip ?_
    refine T_tn ?_
    refine wp_seq ?_
    refine wp_block ?_
    refine W_held (fun W => Ext w W ∧ Blk W aB1_0 (n).l 29 ∧ Ow cI w.heap.size w.heap.size W v2_1 (digits m) ∧ True) mixed (fun w7_99 e7_99 => ?_)
    replace hE := hE.trans e7_99
    replace hB1_0 := hB1_0.ext e7_99
    replace ov2_1 := ov2_1.ext e7_99
    replace or6 := or6.ext e7_99
    refine H_take (i := 0) rfl (by kernel_rfl) (by kernel_rfl) (by kernel_rfl) rfl (pq_block (pq_then (pq_then (pq_block (pq_then pq_body))))) ⟨hE, hB1_0, ov2_1, trivial⟩ rfl (fun w hw => R_move q6) ?_
    refine H_take (i := 1) rfl (by kernel_rfl) (by kernel_rfl) (by kernel_rfl) rfl (pq_block (pq_then (pq_then (pq_block (pq_then pq_body))))) ⟨hE, hB1_0, ov2_1, trivial⟩ rfl (fun w hw => R_loadA (c := (n).l) Tryz.isAgg29 Tryz.sizeOf29 hw.2.1 q2 rfl rfl) ?_
    refine H_take (i := 2) rfl (by kernel_rfl) (by kernel_rfl) (by kernel_rfl) rfl (pq_block (pq_then (pq_then (pq_block (pq_then pq_body))))) ⟨hE, hB1_0, ov2_1, trivial⟩ rfl (fun w hw => R_move q7) ?_
    refine H_take (i := 4) rfl (by kernel_rfl) (by kernel_rfl) (by kernel_rfl) rfl (pq_block (pq_then (pq_then (pq_block (pq_then pq_body))))) ⟨hE, hB1_0, ov2_1, trivial⟩ rfl (fun w hw => R_move q7) ?_
    refine H_take (i := 5) rfl (by kernel_rfl) (by kernel_rfl) (by kernel_rfl) rfl (pq_block (pq_then (pq_then (pq_block (pq_then pq_body))))) ⟨hE, hB1_0, ov2_1, trivial⟩ rfl (fun w hw => R_move q5) ?_
    refine H_take (i := 6) rfl (by kernel_rfl) (by kernel_rfl) (by kernel_rfl) rfl (pq_block (pq_then (pq_then (pq_block (pq_then pq_body))))) ⟨hE, hB1_0, ov2_1, trivial⟩ rfl (fun w hw => R_move q7) ?_
    refine H_take (i := 7) rfl (by kernel_rfl) (by kernel_rfl) (by kernel_rfl) rfl (pq_block (pq_then (pq_then (pq_block (pq_then pq_body))))) ⟨hE, hB1_0, ov2_1, trivial⟩ rfl (fun w hw => R_elAddr (i := c) Tryz.underlying126 Tryz.sizeOf3 rfl rfl hw.2.2.1.ls.1 (by rw [digits_len]; omega)) ?_
    refine H_take (i := 8) rfl (by kernel_rfl) (by kernel_rfl) (by kernel_rfl) rfl (pq_block (pq_then (pq_then (pq_block (pq_then pq_body))))) ⟨hE, hB1_0, ov2_1, trivial⟩ rfl (fun w hw => R_ldI (i := c) (y := ((digits m).getD (c) 0)) Tryz.isAgg3 rfl hw.2.2.1.ls (getD_some (d := 0) (by rw [digits_len]; omega))) ?_
    refine H_op (i := 3) (by kernel_rfl) rfl rfl (D_call (R_callF Tryz.call90 rfl rfl) (c145 (n) (c) _) (fun w7_3 e7_3 => ?_))
    replace hE := hE.trans e7_3
    replace hB1_0 := hB1_0.ext e7_3
    replace ov2_1 := ov2_1.ext e7_3
    replace or6 := or6.ext e7_3
    refine ⟨⟨hE, hB1_0, ov2_1, trivial⟩, ?_⟩
    refine H_op (i := 9) (by kernel_rfl) rfl rfl (D_call (R_callF Tryz.call89 rfl rfl) (c144 ((startN n (c))) (c) (0) (((digits m).getD (c) 0)) _ (by omega) (by omega) (by omega)) (fun w7_9 e7_9 => ?_))
    replace hE := hE.trans e7_9
    replace hB1_0 := hB1_0.ext e7_9
    replace ov2_1 := ov2_1.ext e7_9
    replace or6 := or6.ext e7_9
    refine ⟨⟨hE, hB1_0, ov2_1, trivial⟩, ?_⟩
    refine H_op (i := 10) (by kernel_rfl) rfl rfl (D_buildL1 (C := cN) (lo := w.heap.size) (y := (wk (c) (((digits m).getD (c) 0) - 0) (0) (startN n (c)))) Tryz.underlying22 Tryz.sizeOf29 Tryz.zeroValue29 (mapp1 rfl) (by decide) trivial (fun v7_10 w7_10 o7_10 e7_10 => ?_))
    have yv7_10_B1_0 : Value.ownBlock v7_10 ≠ some aB1_0 := fun hk => absurd (own_ge o7_10.1 hk) (Nat.not_le.2 hB1_0.lt)
    have zr6_v7_10 := own_apart or6.1 o7_10.1
    have zv7_10_r6 := fun k hk hk2 => zr6_v7_10 k hk2 hk
    replace o7_10 := o7_10.low hE.size
    replace hE := hE.trans e7_10
    replace hB1_0 := hB1_0.ext e7_10
    replace ov2_1 := ov2_1.ext e7_10
    replace or6 := or6.ext e7_10
    refine ⟨⟨hE, hB1_0, ov2_1, trivial⟩, ?_⟩
    refine H_op (i := 11) (by kernel_rfl) rfl rfl (D_appendL elt24 Tryz.underlying22 rfl rfl or6 (Nat.le_refl _) o7_10.ls (by (try simp only [List.length_take, List.length_drop, List.length_append, List.length_cons, List.length_nil, List.length_replicate, List.length_set, Nm.b_len, be2_len]); omega) (by (try simp only [List.length_take, List.length_drop, List.length_append, List.length_cons, List.length_nil, List.length_replicate, List.length_set, Nm.b_len, be2_len]); omega) hE.size (fun v7_11 w7_11 o7_11 g7_11 f7_11 sv7_11 => ?_))
    have yv7_11_B1_0 : Value.ownBlock v7_11 ≠ some aB1_0 := fun hk => (sv7_11 _ hk).elim yr6_B1_0 (fun h => absurd h (Nat.not_le.2 hB1_0.lt))
    have zv7_10_v7_11 : ∀ k, Value.ownBlock v7_10 = some k → Value.ownBlock v7_11 ≠ some k := fun k hk2 hk => (sv7_11 _ hk).elim (fun h => zv7_10_r6 k hk2 h) (fun h => absurd h (Nat.not_le.2 (own_lt o7_10.1 hk2)))
    have zv7_11_v7_10 := fun k hk hk2 => zv7_10_v7_11 k hk2 hk
    replace hE := hE.grown g7_11 (fun k hk => own_ge or6.1 hk)
    replace hB1_0 := hB1_0.grown g7_11 (yr6_B1_0)
    replace ov2_1 := ov2_1.grown g7_11 (own_ne ov2_1.1 or6.1 rfl) f7_11
    replace o7_10 := o7_10.grown g7_11 (zv7_10_r6) f7_11
    refine ⟨⟨hE, hB1_0, ov2_1, trivial⟩, ?_⟩
    refine H_take (i := 12) rfl (by kernel_rfl) (by kernel_rfl) (by kernel_rfl) rfl (pq_block (pq_then (pq_then (pq_block (pq_then pq_body))))) ⟨hE, hB1_0, ov2_1, trivial⟩ rfl (fun w hw => R_assign rfl) ?_
    refine H_done (by kernel_rfl) ?_
    refine T_bn ?_
    refine T_tn ?_
    refine W_region ?_
    refine L (D_v (R_move q7) ?_)
    refine L (D_v (R_addN (m := c) (j := 1) rfl rfl (by (try simp only [List.length_take, List.length_drop, List.length_append, List.length_cons, List.length_nil, List.length_replicate, List.length_set, Nm.b_len, be2_len]); omega)) ?_)
    refine L (D_v (R_assign rfl) ?_)
    refine S_nil ?_
    refine T_tn ?_
    refine ⟨_, _, ?_, rfl, _, c + 1, _, rfl, q2, q5, rfl, rfl, hE, hB1_0, ov2_1, o7_11, yv7_11_B1_0, ?_, ?_⟩
    all_goals first | omega | exact push_next he (oneSig_at n m lk)
  ·
    have lk : ¬ c < 18 := by have h1 := of_decide_eq_false c1; (try rw [digits_len] at h1); omega
    refine wp_exit ?_
    refine T_te ?_
    refine T_te ?_
    refine T_be ?_
    refine T_tn ?_
    refine wp_seq ?_
    refine W_region ?_
    refine L (D_v (R_move q6) ?_)
    refine L (D_v (R_assign rfl) ?_)
    refine S_nil ?_
    refine T_tn ?_
    refine wp_ret ?_
    refine ret1 (v := r6) rfl rfl ⟨_, rfl, hE, ?_⟩
    obtain rfl : c = 18 := by omega
    have hes : es = oneSig n m := push_all he (by rw [oneSig_len]; omega)
    rw [← hes]; exact or6
set_option maxRecDepth 4000 in
set_option maxHeartbeats 1000000 in
theorem c123 (n : Nm) (lv t j : Nat) (w : World) : Calls Tryz.prog 58 [n.v, i64 ((lv : Nat) : Int), i64 ((t : Nat) : Int), i64 ((j : Nat) : Int)].toArray w (Ret w (keyN n lv t j).v) := by
  refine enter Tryz.func58 Tryz.ntmps58 rfl rfl ?_
  have hE := Ext.refl w
  refine wp_seq ?_
  refine W_region ?_
  refine L (D_box (c := (n).l) (rfl) (fun aB1_0 w1_0 e1_0 gB1_0 hB1_0 => ?_))
  have lB1_0 := Nat.le_trans hE.size gB1_0
  replace hE := hE.trans e1_0
  refine L (D_alloc (c := (Nm.zero).l) Tryz.zeroValue29 rfl (fun aB1_1 w1_1 e1_1 gB1_1 hB1_1 => ?_))
  have lB1_1 := Nat.le_trans hE.size gB1_1
  have nB1_0B1_1 := hB1_0.ne gB1_1
  replace hE := hE.trans e1_1
  replace hB1_0 := hB1_0.ext e1_1
  refine S_nil ?_
  refine T_tn ?_
  refine wp_seq ?_
  refine W_region ?_
  refine L (D_build0 Tryz.underlying32 Tryz.sizeOf5 (fun v2_0 w2_0 o2_0 e2_0 => ?_))
  replace o2_0 := o2_0.lo hE.size
  replace hE := hE.trans e2_0
  replace hB1_0 := hB1_0.ext e2_0
  replace hB1_1 := hB1_1.ext e2_0
  refine L (D_v (R_sliceArr (len := 7) Tryz.underlying29 Tryz.sizeOf5 rfl) ?_)
  refine L (D_appendB elt5 Tryz.underlying32 rfl rfl o2_0 (hB1_0.bs 0 (n).b rfl rfl rfl) (by (try simp only [List.length_take, List.length_drop, List.length_append, List.length_cons, List.length_nil, List.length_replicate, List.length_set, Nm.b_len, be2_len]); omega) hE.size (fun v2_2 w2_2 o2_2 g2_2 => ?_))
  replace hE := hE.grown g2_2 (fun k hk => own_ge o2_0 hk)
  replace hB1_0 := hB1_0.grown g2_2 (own_neB o2_0 hB1_0 rfl)
  replace hB1_1 := hB1_1.grown g2_2 (own_neB o2_0 hB1_1 rfl)
  refine L (D_v (R_move rfl) ?_)
  refine L (D_v (R_convB Tryz.runUnderlying3 rfl) ?_)
  refine L (D_v (R_move rfl) ?_)
  refine L (D_v (R_shrC (z := 8) rfl rfl (by decide) (by decide)) ?_)
  refine L (D_v (R_convB Tryz.runUnderlying3 rfl) ?_)
  refine L (D_v (R_move rfl) ?_)
  refine L (D_v (R_convB Tryz.runUnderlying3 rfl) ?_)
  refine L (D_v (R_move rfl) ?_)
  refine L (D_v (R_convB Tryz.runUnderlying3 rfl) ?_)
  refine L (D_buildB (vs := [(0, u8 (by8 (((lv : Nat) : Int)))), (1, u8 (by8 ((((t : Nat) : Int) / 2 ^ 8)))), (2, u8 (by8 (((t : Nat) : Int)))), (3, u8 (by8 (((j : Nat) : Int))))]) (b := [(by8 (((lv : Nat) : Int))), (by8 ((((t : Nat) : Int) / 2 ^ 8))), (by8 (((t : Nat) : Int))), (by8 (((j : Nat) : Int)))]) Tryz.underlying32 Tryz.sizeOf5 Tryz.zeroValue5 rfl (fillB4 _ _ _ _) rfl rfl rfl (fun v2_12 w2_12 o2_12 e2_12 => ?_))
  have zv2_2_v2_12 := own_apart o2_2 o2_12
  have zv2_12_v2_2 := fun k hk hk2 => zv2_2_v2_12 k hk2 hk
  replace o2_12 := o2_12.lo hE.size
  replace hE := hE.trans e2_12
  replace hB1_0 := hB1_0.ext e2_12
  replace hB1_1 := hB1_1.ext e2_12
  replace o2_2 := o2_2.ext e2_12
  refine L (D_appendB elt5 Tryz.underlying32 rfl rfl o2_2 o2_12.bs (by (try simp only [List.length_take, List.length_drop, List.length_append, List.length_cons, List.length_nil, List.length_replicate, List.length_set, Nm.b_len, be2_len]); omega) hE.size (fun v2_13 w2_13 o2_13 g2_13 => ?_))
  replace hE := hE.grown g2_13 (fun k hk => own_ge o2_2 hk)
  replace hB1_0 := hB1_0.grown g2_13 (own_neB o2_2 hB1_0 rfl)
  replace hB1_1 := hB1_1.grown g2_13 (own_neB o2_2 hB1_1 rfl)
  replace o2_12 := o2_12.grown g2_13 (zv2_12_v2_2)
  refine L (D_call (R_callF Tryz.call60 rfl rfl) (c88 (48) v2_13 ((([] ++ (n).b) ++ [(by8 (((lv : Nat) : Int))), (by8 ((((t : Nat) : Int) / 2 ^ 8))), (by8 (((t : Nat) : Int))), (by8 (((j : Nat) : Int)))])) _ o2_13.bs (by (try simp only [List.length_take, List.length_drop, List.length_append, List.length_cons, List.length_nil, List.length_replicate, List.length_set, Nm.b_len, be2_len]); omega)) (fun w2_14 e2_14 => ?_))
  replace hE := hE.trans e2_14
  replace hB1_0 := hB1_0.ext e2_14
  replace hB1_1 := hB1_1.ext e2_14
  replace o2_12 := o2_12.ext e2_14
  replace o2_13 := o2_13.ext e2_14
  have xo2_12 := own_neB o2_12 hB1_1 rfl
  have xo2_13 := own_neB o2_13 hB1_1 rfl
  have h0 := hB1_1
  refine L (D_storeA Tryz.sizeOf29 hB1_1 rfl rfl rfl rfl rfl (l' := ((hashB (48 :: (([] ++ (n).b) ++ [(by8 (((lv : Nat) : Int))), (by8 ((((t : Nat) : Int) / 2 ^ 8))), (by8 (((t : Nat) : Int))), (by8 (((j : Nat) : Int)))])))).l) rfl (fun w2_15 k2_15 hB1_1 => ?_))
  replace hE := hE.kp k2_15 lB1_1
  replace hB1_0 := hB1_0.kp k2_15 nB1_0B1_1
  replace o2_12 := o2_12.kp k2_15 xo2_12
  replace o2_13 := o2_13.kp k2_15 xo2_13
  refine S_nil ?_
  refine T_tn ?_
  refine wp_ret ?_
  refine retc (c := ((hashB (48 :: (([] ++ (n).b) ++ [(by8 (((lv : Nat) : Int))), (by8 ((((t : Nat) : Int) / 2 ^ 8))), (by8 (((t : Nat) : Int))), (by8 (((j : Nat) : Int)))])))).l) rfl rfl Tryz.isAgg29 Tryz.sizeOf29 hB1_1 rfl rfl ⟨?_, hE⟩
  rfl
set_option maxRecDepth 4000 in
set_option maxHeartbeats 1000000 in
theorem c140s (F : Nat) (ih : ∀ (v : Value) (l : List Nm) (w : World), l.length ≤ F → 0 < l.length → l.length ≤ 1000000 → Ls cN w.heap.size w v l → Calls Tryz.prog 36 [v].toArray w (Ret w (mroot F l).v)) (v : Value) (l : List Nm) (w : World) (hn : l.length ≤ F + 1) (h0 : 0 < l.length) (hb : l.length ≤ 1000000) (h : Ls cN w.heap.size w v l) : Calls Tryz.prog 36 [v].toArray w (Ret w (mroot (F + 1) l).v) := by
  refine enter Tryz.func36 Tryz.ntmps36 rfl rfl ?_
  have hE := Ext.refl w
  refine wp_seq ?_
  refine W_region ?_
  refine L (D_alloc (c := (Nm.zero).l) Tryz.zeroValue29 rfl (fun aB1_0 w1_0 e1_0 gB1_0 hB1_0 => ?_))
  have lB1_0 := Nat.le_trans hE.size gB1_0
  replace hE := hE.trans e1_0
  refine S_nil ?_
  refine T_tn ?_
  refine wp_seq ?_
  refine wp_seq ?_
  refine W_region ?_
  refine L (D_v (R_move rfl) ?_)
  refine L (D_v (R_len Tryz.underlying22 rfl (h.ext hE).1) ?_)
  refine S_nil ?_
  refine T_tn ?_
  refine wp_block ?_
  refine wp_seq ?_
  refine W_region ?_
  refine L (D_v (R_eqlI rfl rfl) ?_)
  refine L (D_v (R_assign rfl) ?_)
  refine S_nil ?_
  refine T_tn ?_
  refine W_if rfl (fun c1 => ?_) (fun c1 => ?_)
  ·
    exfalso; have h9 := eq_of_beq c1; omega
  ·
    refine wp_seq ?_
    refine W_region ?_
    refine L (D_v (R_eqlI rfl rfl) ?_)
    refine L (D_v (R_assign rfl) ?_)
    refine S_nil ?_
    refine T_tn ?_
    refine W_if rfl (fun c2 => ?_) (fun c2 => ?_)
    ·
      have h1 : l.length = 1 := by have h9 := eq_of_beq c2; omega
      refine wp_seq ?_
      refine W_region ?_
      refine L (D_v (R_move rfl) ?_)
      refine L (D_v (R_elAddr (i := 0) Tryz.underlying22 Tryz.sizeOf29 rfl rfl (h.ext hE).1 (by (try simp only [List.length_take, List.length_drop, List.length_append, List.length_cons, List.length_nil, List.length_replicate, List.length_set, Nm.b_len, be2_len]); omega)) ?_)
      refine L (D_v (R_sliceEl (len := 7) (k := 0 * 8) Tryz.underlying29 Tryz.sizeOf5 (h.ext hE).1 (lel_lt (C := cN) (k := 0) (getD_some (d := Nm.zero) (by (try simp only [List.length_take, List.length_drop, List.length_append, List.length_cons, List.length_nil, List.length_replicate, List.length_set, Nm.b_len, be2_len]); omega)) (by decide)) rfl) ?_)
      refine L (D_call (R_callF Tryz.call60 rfl rfl) (c88 (17) (elS v (0 * 8) 8) ((((l).getD (0) Nm.zero)).b) _ ((h.ext hE).bs (getD_some (d := Nm.zero) (by (try simp only [List.length_take, List.length_drop, List.length_append, List.length_cons, List.length_nil, List.length_replicate, List.length_set, Nm.b_len, be2_len]); omega))) (by (try simp only [List.length_take, List.length_drop, List.length_append, List.length_cons, List.length_nil, List.length_replicate, List.length_set, Nm.b_len, be2_len]); omega)) (fun w5_3 e5_3 => ?_))
      replace hE := hE.trans e5_3
      replace hB1_0 := hB1_0.ext e5_3
      have h0 := hB1_0
      refine L (D_storeA Tryz.sizeOf29 hB1_0 rfl rfl rfl rfl rfl (l' := ((hashB (17 :: (((l).getD (0) Nm.zero)).b))).l) rfl (fun w5_4 k5_4 hB1_0 => ?_))
      replace hE := hE.kp k5_4 lB1_0
      refine S_nil ?_
      refine T_tn ?_
      refine wp_ret ?_
      refine T_br ?_
      refine T_tr ?_
      refine retc (c := ((hashB (17 :: (((l).getD (0) Nm.zero)).b))).l) rfl rfl Tryz.isAgg29 Tryz.sizeOf29 hB1_0 rfl rfl ⟨?_, hE⟩
      rw [mroot_one h1]; rfl
    ·
      have h1 : l.length ≠ 1 := by have h9 := ne_of_beq_false c2; omega
      have hsb := split_bound (n := l.length) (by omega)
      refine wp_skip ?_
      refine T_bn ?_
      refine T_tn ?_
      refine wp_seq ?_
      refine W_region ?_
      refine L (D_v (R_move rfl) ?_)
      refine L (D_v (R_len Tryz.underlying22 rfl (h.ext hE).1) ?_)
      refine L (D_call (R_callF Tryz.call61 rfl rfl) (c141 ((l).length) _ (by omega) (by omega)) (fun w5_2 e5_2 => ?_))
      replace hE := hE.trans e5_2
      replace hB1_0 := hB1_0.ext e5_2
      refine L (D_v (R_assign rfl) ?_)
      refine S_nil ?_
      refine T_tn ?_
      refine wp_seq ?_
      refine W_held (fun W => Ext w W ∧ True) mixed (fun w6_99 e6_99 => ?_)
      replace hE := hE.trans e6_99
      replace hB1_0 := hB1_0.ext e6_99
      refine H_take (i := 0) rfl (by kernel_rfl) (by kernel_rfl) (by kernel_rfl) rfl (pq_then pq_body) ⟨hE, trivial⟩ rfl (fun w hw => R_move rfl) ?_
      refine H_take (i := 1) rfl (by kernel_rfl) (by kernel_rfl) (by kernel_rfl) rfl (pq_then pq_body) ⟨hE, trivial⟩ rfl (fun w hw => R_move rfl) ?_
      refine H_take (i := 2) rfl (by kernel_rfl) (by kernel_rfl) (by kernel_rfl) rfl (pq_then pq_body) ⟨hE, trivial⟩ rfl (fun w hw => R_sliceHi (j := (split ((l).length))) Tryz.underlying22 Tryz.sizeOf29 rfl rfl (h.ext hw.1).1 (by (try simp only [List.length_take, List.length_drop, List.length_append, List.length_cons, List.length_nil, List.length_replicate, List.length_set, Nm.b_len, be2_len]); omega)) ?_
      refine H_take (i := 4) rfl (by kernel_rfl) (by kernel_rfl) (by kernel_rfl) rfl (pq_then pq_body) ⟨hE, trivial⟩ rfl (fun w hw => R_move rfl) ?_
      refine H_take (i := 5) rfl (by kernel_rfl) (by kernel_rfl) (by kernel_rfl) rfl (pq_then pq_body) ⟨hE, trivial⟩ rfl (fun w hw => R_move rfl) ?_
      refine H_take (i := 6) rfl (by kernel_rfl) (by kernel_rfl) (by kernel_rfl) rfl (pq_then pq_body) ⟨hE, trivial⟩ rfl (fun w hw => R_sliceLo (i := (split ((l).length))) Tryz.underlying22 Tryz.sizeOf29 rfl rfl (h.ext hw.1).1 (by (try simp only [List.length_take, List.length_drop, List.length_append, List.length_cons, List.length_nil, List.length_replicate, List.length_set, Nm.b_len, be2_len]); omega)) ?_
      refine H_op (i := 3) (by kernel_rfl) rfl rfl (D_call (R_callF Tryz.call36 rfl rfl) (ih (cutV v (Cd.sz cN) (0) ((split ((l).length)))) ((((l).drop (0)).take ((split ((l).length)) - 0))) _ (by (try simp only [List.length_take, List.length_drop, List.length_append, List.length_cons, List.length_nil, List.length_replicate, List.length_set, Nm.b_len, be2_len]); omega) (by (try simp only [List.length_take, List.length_drop, List.length_append, List.length_cons, List.length_nil, List.length_replicate, List.length_set, Nm.b_len, be2_len]); omega) (by (try simp only [List.length_take, List.length_drop, List.length_append, List.length_cons, List.length_nil, List.length_replicate, List.length_set, Nm.b_len, be2_len]); omega) (((h.ext hE).cut (by (try simp only [List.length_take, List.length_drop, List.length_append, List.length_cons, List.length_nil, List.length_replicate, List.length_set, Nm.b_len, be2_len]); omega) (by (try simp only [List.length_take, List.length_drop, List.length_append, List.length_cons, List.length_nil, List.length_replicate, List.length_set, Nm.b_len, be2_len]); omega)).lev fun _ _ _ => trivial)) (fun w6_3 e6_3 => ?_))
      replace hE := hE.trans e6_3
      replace hB1_0 := hB1_0.ext e6_3
      refine ⟨⟨hE, trivial⟩, ?_⟩
      refine H_op (i := 7) (by kernel_rfl) rfl rfl (D_call (R_callF Tryz.call36 rfl rfl) (ih (cutV v (Cd.sz cN) ((split ((l).length))) ((l).length)) ((((l).drop ((split ((l).length)))).take ((l).length - (split ((l).length))))) _ (by (try simp only [List.length_take, List.length_drop, List.length_append, List.length_cons, List.length_nil, List.length_replicate, List.length_set, Nm.b_len, be2_len]); omega) (by (try simp only [List.length_take, List.length_drop, List.length_append, List.length_cons, List.length_nil, List.length_replicate, List.length_set, Nm.b_len, be2_len]); omega) (by (try simp only [List.length_take, List.length_drop, List.length_append, List.length_cons, List.length_nil, List.length_replicate, List.length_set, Nm.b_len, be2_len]); omega) (((h.ext hE).cut (by (try simp only [List.length_take, List.length_drop, List.length_append, List.length_cons, List.length_nil, List.length_replicate, List.length_set, Nm.b_len, be2_len]); omega) (by (try simp only [List.length_take, List.length_drop, List.length_append, List.length_cons, List.length_nil, List.length_replicate, List.length_set, Nm.b_len, be2_len]); omega)).lev fun _ _ _ => trivial)) (fun w6_7 e6_7 => ?_))
      replace hE := hE.trans e6_7
      replace hB1_0 := hB1_0.ext e6_7
      refine ⟨⟨hE, trivial⟩, ?_⟩
      refine H_op (i := 8) (by kernel_rfl) rfl rfl (D_call (R_callF Tryz.call62 rfl rfl) (c173 (18) ((mroot F ((((l).drop (0)).take ((split ((l).length)) - 0))))) ((mroot F ((((l).drop ((split ((l).length)))).take ((l).length - (split ((l).length))))))) _) (fun w6_8 e6_8 => ?_))
      replace hE := hE.trans e6_8
      replace hB1_0 := hB1_0.ext e6_8
      refine ⟨⟨hE, trivial⟩, ?_⟩
      have h0 := hB1_0
      refine H_op (i := 9) (by kernel_rfl) rfl rfl (D_storeA Tryz.sizeOf29 hB1_0 rfl rfl rfl rfl rfl (l' := ((pairH 18 (mroot F ((((l).drop (0)).take ((split ((l).length)) - 0)))) (mroot F ((((l).drop ((split ((l).length)))).take ((l).length - (split ((l).length)))))))).l) rfl (fun w6_9 k6_9 hB1_0 => ?_))
      replace hE := hE.kp k6_9 lB1_0
      refine ⟨⟨hE, trivial⟩, ?_⟩
      refine H_done (by kernel_rfl) ?_
      refine T_tn ?_
      refine wp_ret ?_
      refine retc (c := ((pairH 18 (mroot F ((((l).drop (0)).take ((split ((l).length)) - 0)))) (mroot F ((((l).drop ((split ((l).length)))).take ((l).length - (split ((l).length)))))))).l) rfl rfl Tryz.isAgg29 Tryz.sizeOf29 hB1_0 rfl rfl ⟨?_, hE⟩
      rw [mroot_two (by omega) h1, cutn_lo, cutn_hi]; rfl
theorem c140 (F : Nat) : ∀ (v : Value) (l : List Nm) (w : World), l.length ≤ F → 0 < l.length → l.length ≤ 1000000 → Ls cN w.heap.size w v l → Calls Tryz.prog 36 [v].toArray w (Ret w (mroot F l).v) := by
  induction F with
  | zero => intro v l w h1 h2; omega
  | succ F ih => exact fun v l w h1 h2 h3 h4 => c140s F ih v l w h1 h2 h3 h4
set_option maxRecDepth 4000 in
set_option maxHeartbeats 1000000 in
theorem c119s (F : Nat) (ih : ∀ (v : Value) (l : List Nm) (i : Nat) (w : World), l.length ≤ F → i < l.length → l.length ≤ 1000000 → Ls cN w.heap.size w v l → Calls Tryz.prog 55 [v, i64 ((i : Nat) : Int)].toArray w (RetE w fun r w' => ∃ q, r = .tuple #[q, .bool true] ∧ Ow cN w.heap.size w.heap.size w' q (mpath F l i))) (v : Value) (l : List Nm) (i : Nat) (w : World) (hn : l.length ≤ F + 1) (hi : i < l.length) (hb : l.length ≤ 1000000) (h : Ls cN w.heap.size w v l) : Calls Tryz.prog 55 [v, i64 ((i : Nat) : Int)].toArray w (RetE w fun r w' => ∃ q, r = .tuple #[q, .bool true] ∧ Ow cN w.heap.size w.heap.size w' q (mpath (F + 1) l i)) := by
  refine enter Tryz.func55 Tryz.ntmps55 rfl rfl ?_
  have hE := Ext.refl w
  refine wp_seq ?_
  refine W_region ?_
  refine L (D_v (R_assign rfl) ?_)
  refine L (D_v (R_assign rfl) ?_)
  refine S_nil ?_
  refine T_tn ?_
  refine wp_seq ?_
  refine wp_seq ?_
  refine W_region ?_
  refine L (D_v (R_move rfl) ?_)
  refine L (D_v (R_cast (v' := .bool false) (R_lssI rfl rfl) (congrArg Value.bool (decide_eq_false (by omega)))) ?_)
  refine L (D_v (R_move rfl) ?_)
  refine L (D_on rfl rfl (D_v (R_move rfl) ?_))
  refine L (D_on rfl rfl (D_v (R_move rfl) ?_))
  refine L (D_on rfl rfl (D_v (R_len Tryz.underlying22 rfl (h.ext hE).1) ?_))
  refine L (D_on rfl rfl (D_v (R_geqI rfl rfl) ?_))
  refine L (D_v (R_pick rfl rfl rfl) ?_)
  refine S_nil ?_
  refine T_tn ?_
  refine W_if rfl (fun c1 => ?_) (fun c1 => ?_)
  ·
    exfalso; revert c1; generalize l.length = m9 at *; simp; omega
  ·
    refine wp_skip ?_
    refine T_tn ?_
    refine wp_seq ?_
    refine wp_seq ?_
    refine W_region ?_
    refine L (D_v (R_move rfl) ?_)
    refine L (D_v (R_len Tryz.underlying22 rfl (h.ext hE).1) ?_)
    refine L (D_v (R_eqlI rfl rfl) ?_)
    refine S_nil ?_
    refine T_tn ?_
    refine W_if rfl (fun c2 => ?_) (fun c2 => ?_)
    ·
      have h1 : l.length = 1 := by have h9 := eq_of_beq c2; omega
      refine wp_seq ?_
      refine W_region ?_
      refine L (D_v (R_assign rfl) ?_)
      refine L (D_v (R_assign rfl) ?_)
      refine S_nil ?_
      refine T_tn ?_
      refine wp_ret ?_
      refine T_tr ?_
      refine ret2 (v := (Value.slice none 0 0)) (v2 := .bool _) rfl rfl rfl ⟨_, rfl, hE, ?_⟩
      rw [mpath_one h1]; exact ⟨_, rfl, Ow.nil _ _ _ _⟩
    ·
      have h1 : l.length ≠ 1 := by have h9 := ne_of_beq_false c2; omega
      have hsb := split_bound (n := l.length) (by omega)
      refine wp_skip ?_
      refine T_tn ?_
      refine wp_seq ?_
      refine W_region ?_
      refine L (D_v (R_move rfl) ?_)
      refine L (D_v (R_len Tryz.underlying22 rfl (h.ext hE).1) ?_)
      refine L (D_call (R_callF Tryz.call61 rfl rfl) (c141 ((l).length) _ (by omega) (by omega)) (fun w4_2 e4_2 => ?_))
      replace hE := hE.trans e4_2
      refine L (D_v (R_assign rfl) ?_)
      refine S_nil ?_
      refine T_tn ?_
      refine wp_seq ?_
      refine wp_seq ?_
      refine W_region ?_
      refine L (D_v (R_move rfl) ?_)
      refine L (D_v (R_move rfl) ?_)
      refine L (D_v (R_lssI rfl rfl) ?_)
      refine S_nil ?_
      refine T_tn ?_
      refine W_if rfl (fun c3 => ?_) (fun c3 => ?_)
      ·
        have lk : i < split l.length := by have h9 := of_decide_eq_true c3; omega
        have hpl : (mpath F (((l).drop (0)).take (split l.length - 0)) (i)).length ≤ 1000000 := Nat.le_trans (mpath_ln (by (try simp only [List.length_take, List.length_drop]); omega) (by (try simp only [List.length_take, List.length_drop]); omega)) (by (try simp only [List.length_take, List.length_drop]); omega)
        refine wp_seq ?_
        refine W_region ?_
        refine L (D_v (R_move rfl) ?_)
        refine L (D_v (R_move rfl) ?_)
        refine L (D_v (R_sliceHi (j := (split ((l).length))) Tryz.underlying22 Tryz.sizeOf29 rfl rfl (h.ext hE).1 (by (try simp only [List.length_take, List.length_drop, List.length_append, List.length_cons, List.length_nil, List.length_replicate, List.length_set, Nm.b_len, be2_len]); omega)) ?_)
        refine L (D_v (R_move rfl) ?_)
        refine L (D_callE (R_callF Tryz.call55 rfl rfl) (ih (cutV v (Cd.sz cN) (0) ((split ((l).length)))) ((((l).drop (0)).take ((split ((l).length)) - 0))) (i) _ (by (try simp only [List.length_take, List.length_drop, List.length_append, List.length_cons, List.length_nil, List.length_replicate, List.length_set, Nm.b_len, be2_len]); omega) (by (try simp only [List.length_take, List.length_drop, List.length_append, List.length_cons, List.length_nil, List.length_replicate, List.length_set, Nm.b_len, be2_len]); omega) (by (try simp only [List.length_take, List.length_drop, List.length_append, List.length_cons, List.length_nil, List.length_replicate, List.length_set, Nm.b_len, be2_len]); omega) (((h.ext hE).cut (by (try simp only [List.length_take, List.length_drop, List.length_append, List.length_cons, List.length_nil, List.length_replicate, List.length_set, Nm.b_len, be2_len]); omega) (by (try simp only [List.length_take, List.length_drop, List.length_append, List.length_cons, List.length_nil, List.length_replicate, List.length_set, Nm.b_len, be2_len]); omega)).lev fun _ _ _ => trivial)) (fun v6_4 w6_4 e6_4 p6_4 => ?_))
        obtain ⟨q6_4, rfl, o6_4⟩ := p6_4
        replace o6_4 := o6_4.low hE.size
        replace o6_4 := Ow.lev (lo' := w.heap.size) o6_4 (fun _ _ _ => trivial)
        replace hE := hE.trans e6_4
        refine L (D_v (R_move rfl) ?_)
        refine L (D_v (R_extract rfl rfl) ?_)
        refine L (D_v (R_extract rfl rfl) ?_)
        refine L (D_v (R_assign rfl) ?_)
        refine L (D_v (R_assign rfl) ?_)
        refine S_nil ?_
        refine T_tn ?_
        refine wp_seq ?_
        refine W_region ?_
        refine L (D_v (R_move rfl) ?_)
        refine L (D_v (R_move rfl) ?_)
        refine L (D_v (R_move rfl) ?_)
        refine L (D_v (R_sliceLo (i := (split ((l).length))) Tryz.underlying22 Tryz.sizeOf29 rfl rfl (h.ext hE).1 (by (try simp only [List.length_take, List.length_drop, List.length_append, List.length_cons, List.length_nil, List.length_replicate, List.length_set, Nm.b_len, be2_len]); omega)) ?_)
        refine L (D_call (R_callF Tryz.call36 rfl rfl) (c140 F (cutV v (Cd.sz cN) ((split ((l).length))) ((l).length)) ((((l).drop ((split ((l).length)))).take ((l).length - (split ((l).length))))) _ (by (try simp only [List.length_take, List.length_drop, List.length_append, List.length_cons, List.length_nil, List.length_replicate, List.length_set, Nm.b_len, be2_len]); omega) (by (try simp only [List.length_take, List.length_drop, List.length_append, List.length_cons, List.length_nil, List.length_replicate, List.length_set, Nm.b_len, be2_len]); omega) (by (try simp only [List.length_take, List.length_drop, List.length_append, List.length_cons, List.length_nil, List.length_replicate, List.length_set, Nm.b_len, be2_len]); omega) (((h.ext hE).cut (by (try simp only [List.length_take, List.length_drop, List.length_append, List.length_cons, List.length_nil, List.length_replicate, List.length_set, Nm.b_len, be2_len]); omega) (by (try simp only [List.length_take, List.length_drop, List.length_append, List.length_cons, List.length_nil, List.length_replicate, List.length_set, Nm.b_len, be2_len]); omega)).lev fun _ _ _ => trivial)) (fun w7_4 e7_4 => ?_))
        replace hE := hE.trans e7_4
        replace o6_4 := o6_4.ext e7_4
        refine L (D_buildL1 (C := cN) (lo := w.heap.size) (y := (mroot F ((((l).drop ((split ((l).length)))).take ((l).length - (split ((l).length))))))) Tryz.underlying22 Tryz.sizeOf29 Tryz.zeroValue29 (mapp1 rfl) (by decide) trivial (fun v7_5 w7_5 o7_5 e7_5 => ?_))
        have zq6_4_v7_5 := own_apart o6_4.1 o7_5.1
        have zv7_5_q6_4 := fun k hk hk2 => zq6_4_v7_5 k hk2 hk
        replace o7_5 := o7_5.low hE.size
        replace hE := hE.trans e7_5
        replace o6_4 := o6_4.ext e7_5
        refine L (D_appendL elt24 Tryz.underlying22 rfl rfl o6_4 (Nat.le_refl _) o7_5.ls (by (try simp only [List.length_take, List.length_drop, List.length_append, List.length_cons, List.length_nil, List.length_replicate, List.length_set, Nm.b_len, be2_len]); omega) (by (try simp only [List.length_take, List.length_drop, List.length_append, List.length_cons, List.length_nil, List.length_replicate, List.length_set, Nm.b_len, be2_len]); omega) hE.size (fun v7_6 w7_6 o7_6 g7_6 f7_6 sv7_6 => ?_))
        have zv7_5_v7_6 : ∀ k, Value.ownBlock v7_5 = some k → Value.ownBlock v7_6 ≠ some k := fun k hk2 hk => (sv7_6 _ hk).elim (fun h => zv7_5_q6_4 k hk2 h) (fun h => absurd h (Nat.not_le.2 (own_lt o7_5.1 hk2)))
        have zv7_6_v7_5 := fun k hk hk2 => zv7_5_v7_6 k hk2 hk
        replace hE := hE.grown g7_6 (fun k hk => own_ge o6_4.1 hk)
        replace o7_5 := o7_5.grown g7_6 (zv7_5_q6_4) f7_6
        refine L (D_v (R_assign rfl) ?_)
        refine L (D_v (R_assign rfl) ?_)
        refine S_nil ?_
        refine T_tn ?_
        refine wp_ret ?_
        refine T_tr ?_
        refine ret2 (v := v7_6) (v2 := .bool _) rfl rfl rfl ⟨_, rfl, hE, ?_⟩
        rw [mpath_lo h1 lk]; simp only [cutn_lo, cutn_hi] at o7_6; exact ⟨_, rfl, o7_6⟩
      ·
        have lk : ¬ i < split l.length := by have h9 := of_decide_eq_false c3; omega
        have hpl : (mpath F (((l).drop (split l.length)).take (l.length - split l.length)) (i - split l.length)).length ≤ 1000000 := Nat.le_trans (mpath_ln (by (try simp only [List.length_take, List.length_drop]); omega) (by (try simp only [List.length_take, List.length_drop]); omega)) (by (try simp only [List.length_take, List.length_drop]); omega)
        refine wp_skip ?_
        refine T_tn ?_
        refine wp_seq ?_
        refine W_region ?_
        refine L (D_v (R_move rfl) ?_)
        refine L (D_v (R_move rfl) ?_)
        refine L (D_v (R_sliceLo (i := (split ((l).length))) Tryz.underlying22 Tryz.sizeOf29 rfl rfl (h.ext hE).1 (by (try simp only [List.length_take, List.length_drop, List.length_append, List.length_cons, List.length_nil, List.length_replicate, List.length_set, Nm.b_len, be2_len]); omega)) ?_)
        refine L (D_v (R_move rfl) ?_)
        refine L (D_v (R_move rfl) ?_)
        refine L (D_v (R_subN (m := i) (j := (split ((l).length))) rfl rfl (by (try simp only [List.length_take, List.length_drop, List.length_append, List.length_cons, List.length_nil, List.length_replicate, List.length_set, Nm.b_len, be2_len]); omega) (by (try simp only [List.length_take, List.length_drop, List.length_append, List.length_cons, List.length_nil, List.length_replicate, List.length_set, Nm.b_len, be2_len]); omega)) ?_)
        refine L (D_callE (R_callF Tryz.call55 rfl rfl) (ih (cutV v (Cd.sz cN) ((split ((l).length))) ((l).length)) ((((l).drop ((split ((l).length)))).take ((l).length - (split ((l).length))))) ((i - (split ((l).length)))) _ (by (try simp only [List.length_take, List.length_drop, List.length_append, List.length_cons, List.length_nil, List.length_replicate, List.length_set, Nm.b_len, be2_len]); omega) (by (try simp only [List.length_take, List.length_drop, List.length_append, List.length_cons, List.length_nil, List.length_replicate, List.length_set, Nm.b_len, be2_len]); omega) (by (try simp only [List.length_take, List.length_drop, List.length_append, List.length_cons, List.length_nil, List.length_replicate, List.length_set, Nm.b_len, be2_len]); omega) (((h.ext hE).cut (by (try simp only [List.length_take, List.length_drop, List.length_append, List.length_cons, List.length_nil, List.length_replicate, List.length_set, Nm.b_len, be2_len]); omega) (by (try simp only [List.length_take, List.length_drop, List.length_append, List.length_cons, List.length_nil, List.length_replicate, List.length_set, Nm.b_len, be2_len]); omega)).lev fun _ _ _ => trivial)) (fun v6_6 w6_6 e6_6 p6_6 => ?_))
        obtain ⟨q6_6, rfl, o6_6⟩ := p6_6
        replace o6_6 := o6_6.low hE.size
        replace o6_6 := Ow.lev (lo' := w.heap.size) o6_6 (fun _ _ _ => trivial)
        replace hE := hE.trans e6_6
        refine L (D_v (R_move rfl) ?_)
        refine L (D_v (R_extract rfl rfl) ?_)
        refine L (D_v (R_extract rfl rfl) ?_)
        refine L (D_v (R_assign rfl) ?_)
        refine L (D_v (R_assign rfl) ?_)
        refine S_nil ?_
        refine T_tn ?_
        refine wp_seq ?_
        refine W_region ?_
        refine L (D_v (R_move rfl) ?_)
        refine L (D_v (R_move rfl) ?_)
        refine L (D_v (R_move rfl) ?_)
        refine L (D_v (R_sliceHi (j := (split ((l).length))) Tryz.underlying22 Tryz.sizeOf29 rfl rfl (h.ext hE).1 (by (try simp only [List.length_take, List.length_drop, List.length_append, List.length_cons, List.length_nil, List.length_replicate, List.length_set, Nm.b_len, be2_len]); omega)) ?_)
        refine L (D_call (R_callF Tryz.call36 rfl rfl) (c140 F (cutV v (Cd.sz cN) (0) ((split ((l).length)))) ((((l).drop (0)).take ((split ((l).length)) - 0))) _ (by (try simp only [List.length_take, List.length_drop, List.length_append, List.length_cons, List.length_nil, List.length_replicate, List.length_set, Nm.b_len, be2_len]); omega) (by (try simp only [List.length_take, List.length_drop, List.length_append, List.length_cons, List.length_nil, List.length_replicate, List.length_set, Nm.b_len, be2_len]); omega) (by (try simp only [List.length_take, List.length_drop, List.length_append, List.length_cons, List.length_nil, List.length_replicate, List.length_set, Nm.b_len, be2_len]); omega) (((h.ext hE).cut (by (try simp only [List.length_take, List.length_drop, List.length_append, List.length_cons, List.length_nil, List.length_replicate, List.length_set, Nm.b_len, be2_len]); omega) (by (try simp only [List.length_take, List.length_drop, List.length_append, List.length_cons, List.length_nil, List.length_replicate, List.length_set, Nm.b_len, be2_len]); omega)).lev fun _ _ _ => trivial)) (fun w7_4 e7_4 => ?_))
        replace hE := hE.trans e7_4
        replace o6_6 := o6_6.ext e7_4
        refine L (D_buildL1 (C := cN) (lo := w.heap.size) (y := (mroot F ((((l).drop (0)).take ((split ((l).length)) - 0))))) Tryz.underlying22 Tryz.sizeOf29 Tryz.zeroValue29 (mapp1 rfl) (by decide) trivial (fun v7_5 w7_5 o7_5 e7_5 => ?_))
        have zq6_6_v7_5 := own_apart o6_6.1 o7_5.1
        have zv7_5_q6_6 := fun k hk hk2 => zq6_6_v7_5 k hk2 hk
        replace o7_5 := o7_5.low hE.size
        replace hE := hE.trans e7_5
        replace o6_6 := o6_6.ext e7_5
        refine L (D_appendL elt24 Tryz.underlying22 rfl rfl o6_6 (Nat.le_refl _) o7_5.ls (by (try simp only [List.length_take, List.length_drop, List.length_append, List.length_cons, List.length_nil, List.length_replicate, List.length_set, Nm.b_len, be2_len]); omega) (by (try simp only [List.length_take, List.length_drop, List.length_append, List.length_cons, List.length_nil, List.length_replicate, List.length_set, Nm.b_len, be2_len]); omega) hE.size (fun v7_6 w7_6 o7_6 g7_6 f7_6 sv7_6 => ?_))
        have zv7_5_v7_6 : ∀ k, Value.ownBlock v7_5 = some k → Value.ownBlock v7_6 ≠ some k := fun k hk2 hk => (sv7_6 _ hk).elim (fun h => zv7_5_q6_6 k hk2 h) (fun h => absurd h (Nat.not_le.2 (own_lt o7_5.1 hk2)))
        have zv7_6_v7_5 := fun k hk hk2 => zv7_5_v7_6 k hk2 hk
        replace hE := hE.grown g7_6 (fun k hk => own_ge o6_6.1 hk)
        replace o7_5 := o7_5.grown g7_6 (zv7_5_q6_6) f7_6
        refine L (D_v (R_assign rfl) ?_)
        refine L (D_v (R_assign rfl) ?_)
        refine S_nil ?_
        refine T_tn ?_
        refine wp_ret ?_
        refine ret2 (v := v7_6) (v2 := .bool _) rfl rfl rfl ⟨_, rfl, hE, ?_⟩
        rw [mpath_hi h1 lk]; simp only [cutn_lo, cutn_hi] at o7_6; exact ⟨_, rfl, o7_6⟩
theorem c119 (F : Nat) : ∀ (v : Value) (l : List Nm) (i : Nat) (w : World), l.length ≤ F → i < l.length → l.length ≤ 1000000 → Ls cN w.heap.size w v l → Calls Tryz.prog 55 [v, i64 ((i : Nat) : Int)].toArray w (RetE w fun r w' => ∃ q, r = .tuple #[q, .bool true] ∧ Ow cN w.heap.size w.heap.size w' q (mpath F l i)) := by
  induction F with
  | zero => intro v l i w h1 h2; omega
  | succ F ih => exact fun v l i w h1 h2 h3 h4 => c119s F ih v l i w h1 h2 h3 h4
set_option maxRecDepth 4000 in
set_option maxHeartbeats 1000000 in
theorem c120 (n : Nm) (lv t : Nat) (w : World) : Calls Tryz.prog 37 [n.v, i64 ((lv : Nat) : Int), i64 ((t : Nat) : Int)].toArray w (RetE w fun r w' => Ow cN w.heap.size w.heap.size w' r (leavesN n lv t)) := by
  refine enter Tryz.func37 Tryz.ntmps37 rfl rfl ?_
  have hE := Ext.refl w
  refine wp_seq ?_
  refine W_region ?_
  refine L (D_box (c := (n).l) (rfl) (fun aB1_0 w1_0 e1_0 gB1_0 hB1_0 => ?_))
  have lB1_0 := Nat.le_trans hE.size gB1_0
  replace hE := hE.trans e1_0
  refine L (D_v (R_assign rfl) ?_)
  refine S_nil ?_
  refine T_tn ?_
  refine wp_seq ?_
  refine W_region ?_
  refine L (D_v (R_assign rfl) ?_)
  refine S_nil ?_
  refine T_tn ?_
  refine wp_seq ?_
  refine wp_seq ?_
  refine W_region ?_
  refine L (D_v (R_assign rfl) ?_)
  refine S_nil ?_
  refine T_tn ?_
  refine wp_block ?_
  refine W_loop (fun mz g W => ∃ (es : List Nm) (c : Nat) (r7 : Value), mz = 32 - c ∧ g 1 = i64 ((lv : Nat) : Int) ∧ g 2 = i64 ((t : Nat) : Int) ∧ g 3 = .pointer (some ⟨aB1_0, 0, none⟩) ∧ g 7 = r7 ∧ g 8 = i64 ((c : Nat) : Int) ∧ Ext w W ∧ Blk W aB1_0 (n).l 29 ∧ Ow cN w.heap.size w.heap.size W r7 es ∧ Value.ownBlock r7 ≠ some aB1_0 ∧ c ≤ 32 ∧ es = (leavesN n lv t).take c) ⟨[], 0, _, rfl, rfl, rfl, rfl, rfl, rfl, hE, hB1_0, (Ow.nil cN w.heap.size _ _), (fun h => nomatch (show (none : Option Nat) = some _ from h)), (Nat.zero_le _), (by simp)⟩ ?_
  rintro mz f4 w4l ⟨es, c, r7, hm, q1, q2, q3, q7, q8, hE, hB1_0, or7, yr7_B1_0, hc, he⟩
  have hel : es.length ≤ 32 := by rw [he, List.length_take]; omega
  refine wp_seq ?_
  refine wp_seq ?_
  refine W_region ?_
  refine L (D_v (R_move q8) ?_)
  refine L (D_v (R_lssI rfl rfl) ?_)
  refine S_nil ?_
  refine T_tn ?_
  refine W_if rfl (fun c1 => ?_) (fun c1 => ?_)
  ·
    have lk : c < 32 := by have h1 := of_decide_eq_true c1; omega
    refine wp_skip ?_
    refine T_tn ?_
    refine wp_seq ?_
    refine wp_block ?_
    refine W_region ?_
    refine L (D_v (R_move q7) ?_)
    refine L (D_v (R_loadA (c := (n).l) Tryz.isAgg29 Tryz.sizeOf29 hB1_0 q3 rfl rfl) ?_)
    refine L (D_v (R_move q1) ?_)
    refine L (D_v (R_move q2) ?_)
    refine L (D_v (R_move q8) ?_)
    refine L (D_call (R_callF Tryz.call58 rfl rfl) (c123 (n) (lv) (t) (c) _) (fun w6_5 e6_5 => ?_))
    replace hE := hE.trans e6_5
    replace hB1_0 := hB1_0.ext e6_5
    replace or7 := or7.ext e6_5
    refine L (D_call (R_callF Tryz.call63 rfl rfl) (c142 ((keyN n (lv) (t) (c))) _) (fun w6_6 e6_6 => ?_))
    replace hE := hE.trans e6_6
    replace hB1_0 := hB1_0.ext e6_6
    replace or7 := or7.ext e6_6
    refine L (D_buildL1 (C := cN) (lo := w.heap.size) (y := (onePub (keyN n (lv) (t) (c)))) Tryz.underlying22 Tryz.sizeOf29 Tryz.zeroValue29 (mapp1 rfl) (by decide) trivial (fun v6_7 w6_7 o6_7 e6_7 => ?_))
    have yv6_7_B1_0 : Value.ownBlock v6_7 ≠ some aB1_0 := fun hk => absurd (own_ge o6_7.1 hk) (Nat.not_le.2 hB1_0.lt)
    have zr7_v6_7 := own_apart or7.1 o6_7.1
    have zv6_7_r7 := fun k hk hk2 => zr7_v6_7 k hk2 hk
    replace o6_7 := o6_7.low hE.size
    replace hE := hE.trans e6_7
    replace hB1_0 := hB1_0.ext e6_7
    replace or7 := or7.ext e6_7
    refine L (D_appendL elt24 Tryz.underlying22 rfl rfl or7 (Nat.le_refl _) o6_7.ls (by (try simp only [List.length_take, List.length_drop, List.length_append, List.length_cons, List.length_nil, List.length_replicate, List.length_set, Nm.b_len, be2_len]); omega) (by (try simp only [List.length_take, List.length_drop, List.length_append, List.length_cons, List.length_nil, List.length_replicate, List.length_set, Nm.b_len, be2_len]); omega) hE.size (fun v6_8 w6_8 o6_8 g6_8 f6_8 sv6_8 => ?_))
    have yv6_8_B1_0 : Value.ownBlock v6_8 ≠ some aB1_0 := fun hk => (sv6_8 _ hk).elim yr7_B1_0 (fun h => absurd h (Nat.not_le.2 hB1_0.lt))
    have zv6_7_v6_8 : ∀ k, Value.ownBlock v6_7 = some k → Value.ownBlock v6_8 ≠ some k := fun k hk2 hk => (sv6_8 _ hk).elim (fun h => zv6_7_r7 k hk2 h) (fun h => absurd h (Nat.not_le.2 (own_lt o6_7.1 hk2)))
    have zv6_8_v6_7 := fun k hk hk2 => zv6_7_v6_8 k hk2 hk
    replace hE := hE.grown g6_8 (fun k hk => own_ge or7.1 hk)
    replace hB1_0 := hB1_0.grown g6_8 (yr7_B1_0)
    replace o6_7 := o6_7.grown g6_8 (zv6_7_r7) f6_8
    refine L (D_v (R_assign rfl) ?_)
    refine S_nil ?_
    refine T_bn ?_
    refine T_tn ?_
    refine W_region ?_
    refine L (D_v (R_move q8) ?_)
    refine L (D_v (R_addN (m := c) (j := 1) rfl rfl (by (try simp only [List.length_take, List.length_drop, List.length_append, List.length_cons, List.length_nil, List.length_replicate, List.length_set, Nm.b_len, be2_len]); omega)) ?_)
    refine L (D_v (R_assign rfl) ?_)
    refine S_nil ?_
    refine T_tn ?_
    refine ⟨_, _, ?_, rfl, _, c + 1, _, rfl, q1, q2, q3, rfl, rfl, hE, hB1_0, o6_8, yv6_8_B1_0, ?_, ?_⟩
    all_goals first | omega | exact push_next he (leavesN_at n lv t lk)
  ·
    have lk : ¬ c < 32 := by have h1 := of_decide_eq_false c1; omega
    refine wp_exit ?_
    refine T_te ?_
    refine T_te ?_
    refine T_be ?_
    refine T_tn ?_
    refine wp_seq ?_
    refine W_region ?_
    refine L (D_v (R_move q7) ?_)
    refine L (D_v (R_assign rfl) ?_)
    refine S_nil ?_
    refine T_tn ?_
    refine wp_ret ?_
    refine ret1 (v := r7) rfl rfl ⟨_, rfl, hE, ?_⟩
    obtain rfl : c = 32 := by omega
    have hes : es = leavesN n lv t := push_all he (by rw [leavesN_len]; omega)
    rw [← hes]; exact or7
end Go.Proofs.YteeopgpgbdhmhaaGreat
namespace Go.Proofs.YteeopgpgbdhmhaaGreat
open Go.RowKit Go.Lib
set_option linter.unusedVariables false
set_option linter.unusedSimpArgs false
theorem flatb_next {es : List Nm} {i : Nat} {x : Nm} {b p : List UInt8} (h : b = p ++ (es.take i).flatMap Nm.b) (hx : es[i]? = some x) : b ++ x.b = p ++ (es.take (i + 1)).flatMap Nm.b := by
  rw [h, List.append_assoc, flat_next rfl hx]
def Gr (B : Option Nat) (w W : World) : Prop := w.grownBy W B
theorem Gr.refl (B : Option Nat) (w : World) : Gr B w w := ⟨rfl, rfl, rfl, Nat.le_refl _, fun _ _ _ => rfl⟩
theorem Gr.size {B : Option Nat} {w W : World} (h : Gr B w W) : w.heap.size ≤ W.heap.size := h.4
theorem Gr.trans {B : Option Nat} {w W V : World} (h : Gr B w W) (e : Ext W V) : Gr B w V :=
  ⟨(Below.os e).trans h.1, (Below.tape e).trans h.2, (Below.output e).trans h.3, Nat.le_trans h.4 e.size, fun k hk hb => (Below.block e k (Nat.lt_of_lt_of_le hk h.4)).trans (h.5 k hk hb)⟩
theorem Gr.kp {B : Option Nat} {w W V : World} {g : Nat} (h : Gr B w W) (k : Kp g W V) (hg : w.heap.size ≤ g) : Gr B w V :=
  ⟨k.os.trans h.1, k.tape.trans h.2, k.output.trans h.3, by rw [k.size]; exact h.4, fun i hi hb => (k.block i (by omega)).trans (h.5 i hi hb)⟩
theorem Gr.grown {B row : Option Nat} {w W V : World} (h : Gr B w W) (g : W.grownBy V row) (hr : ∀ k, row = some k → B = some k ∨ w.heap.size ≤ k) : Gr B w V :=
  ⟨g.1.trans h.1, g.2.trans h.2, g.3.trans h.3, Nat.le_trans h.4 g.4, fun k hk hb => (g.5 k (Nat.lt_of_lt_of_le hk h.4) (fun e => by
    rcases hr k e.symm with h1 | h1
    · exact hb h1.symm
    · omega)).trans (h.5 k hk hb)⟩
structure Gx (row : Option Nat) (m : Nat) (w W : World) : Prop where
  os : W.os = w.os
  tape : W.tape = w.tape
  output : W.output = w.output
  size : w.heap.size ≤ W.heap.size
  block : ∀ k, k < w.heap.size → some k ≠ row → k ≠ m → W.heap[k]? = w.heap[k]?
theorem Gx.of {B : Option Nat} {m : Nat} {a b c : World} (h : Chg m a b) (g : Gr B b c) : Gx B m a c :=
  ⟨g.1.trans h.os, g.2.trans h.tape, g.3.trans h.output, Nat.le_trans h.size g.4, fun k hk hb hm => (g.5 k (Nat.lt_of_lt_of_le hk h.size) hb).trans (h.block k hk hm)⟩
theorem Chg.grown {m : Nat} {row : Option Nat} {a b c : World} (h : Chg m a b) (g : b.grownBy c row) (hr : ∀ k, row = some k → a.heap.size ≤ k) : Chg m a c :=
  ⟨g.1.trans h.os, g.2.trans h.tape, g.3.trans h.output, Nat.le_trans h.size g.4, fun k hk hm => (g.5 k (Nat.lt_of_lt_of_le hk h.size) (fun e => by have := hr k e.symm; omega)).trans (h.block k hk hm)⟩
section
variable {P : Program} {ops : Array Oper} {Q : Exit → Act → World → Prop} {K : Act → World → Prop} {n : Nat} {f : Nat → Value} {w : World} {d : Option Tmp} {op : Op} {ty : TypeId} {pos : String} {aft : Array Edge}
theorem D_callX {F : FuncId} {args : Array Value} {Φ : Value → World → Prop} (h : (execOp (ov n f) ⟨d, op, ty, pos, aft, none⟩).run P w = .ok (.enter F args) w) (hc : Calls P F args w (fun e w' => ∃ v, e = .returned v ∧ Φ v w'))
    (k : ∀ v w', Φ v w' → K (E n (upo f d v)) w') : wpO P ops Q ⟨d, op, ty, pos, aft, none⟩ K (E n f) w := by
  simp only [wpO, Region.wanted, if_true]
  refine .inl ?_
  simp only [Oper.wp, E_eval, h, Oper.upon]
  refine hc.mono ?_
  rintro e w1 ⟨v, rfl, h1⟩
  simp only [E_put]
  exact k v w1 h1
end
section
variable {P : Program} {ops : Array Oper} {Q : Exit → Act → World → Prop} {K : Act → World → Prop} {n : Nat} {f : Nat → Value} {w : World} {d : Option Tmp} {op : Op} {ty : TypeId} {pos : String} {aft : Array Edge}
end
theorem Bf.cut {lo : Nat} {w : World} {v : Value} {b : List UInt8} (h : Bf lo w v b) {i j : Nat} (hij : i ≤ j) (hj : j ≤ b.length) : Bf lo w (cutV v 1 i j) ((b.drop i).take (j - i)) := fun w' f => (h w' f).cut hij hj
def RetX (B : World → Prop) (Φ : Value → World → Prop) : Ending → World → Prop := fun e w' => ∃ v, e = .returned v ∧ B w' ∧ Φ v w'
def kv2 (a b : Nat) : Value := .agg #[i64 ((a : Nat) : Int), i64 ((b : Nat) : Int)]
structure Mt (w : World) (m : Nat) (n : Nm) (lim : Nat) : Prop where
  obj : ∃ es c, w.heap[m]? = some (.map es c) ∧ ∀ e ∈ es.toList, ∃ lv t : Nat, lv ≤ 1000000 ∧ t ≤ 1000000 ∧ e.key = kv2 lv t ∧ Ow cN 0 0 w e.val (leavesN n lv t) ∧ ∀ k, e.val.ownBlock = some k → k < lim
structure Mu (w : World) (m : Nat) (n : Nm) (lim lv t : Nat) : Prop where
  mt : Mt w m n lim
  miss : ∀ es c, w.heap[m]? = some (.map es c) → ∀ e ∈ es.toList, e.key ≠ kv2 lv t
theorem Mt.lt {w : World} {m lim : Nat} {n : Nm} (h : Mt w m n lim) : m < w.heap.size := by
  obtain ⟨es, c, h1, _⟩ := h.obj
  exact (Array.getElem?_eq_some_iff.1 h1).1
theorem Mt.of {w w' : World} {m lim : Nat} {n : Nm} (h : Mt w m n lim) (e : w'.heap[m]? = w.heap[m]?) (hr : ∀ v xs, Ow cN 0 0 w v xs → (∀ k, v.ownBlock = some k → k < lim) → Ow cN 0 0 w' v xs) : Mt w' m n lim := by
  obtain ⟨es, c, h1, h2⟩ := h.obj
  refine ⟨es, c, by rw [e]; exact h1, fun x hx => ?_⟩
  obtain ⟨lv, t, a, b, k, o, hl⟩ := h2 x hx
  exact ⟨lv, t, a, b, k, hr _ _ o hl, hl⟩
theorem Mt.ext {w w' : World} {m lim : Nat} {n : Nm} (h : Mt w m n lim) (e : Ext w w') : Mt w' m n lim := h.of (Below.block e m h.lt) fun v xs o _ => o.ext e
theorem own_triv {w' : World} {lk : Nat} {v : Value} {xs : List Nm} (h : w'.ownsRow lk 29 8 v xs.length (cN.cs xs)) : Ow cN 0 lk w' v xs := ⟨h, fun _ _ => trivial⟩
theorem own_trivL {lo : Nat} {w' : World} {lk : Nat} {v : Value} {xs : List Nm} (h : w'.ownsRow lk 29 8 v xs.length (cN.cs xs)) : Ow cN lo lk w' v xs := ⟨h, fun _ _ => trivial⟩
theorem Mt.kp {w w' : World} {m lim g : Nat} {n : Nm} (h : Mt w m n lim) (k : Kp g w w') (hn : m ≠ g) (hg : lim ≤ g) : Mt w' m n lim :=
  h.of (k.block m hn) fun v xs o hl => own_triv (own_kp o.1 k (fun e => by have := hl g e; omega))
theorem Mt.grown {w w' : World} {m lim : Nat} {n : Nm} {row : Option Nat} (h : Mt w m n lim) (g : w.grownBy w' row) (hn : row ≠ some m) (hr : ∀ k, row = some k → lim ≤ k) : Mt w' m n lim :=
  h.of (g.5 m h.lt (fun e => hn e.symm)) fun v xs o hl => own_triv (own_grown o.1 g (fun k hk e => by have := hl k hk; have := hr k e; omega))
theorem Mt.ne {w : World} {m lim g' : Nat} {n : Nm} (h : Mt w m n lim) (hg : w.heap.size ≤ g') : m ≠ g' := Nat.ne_of_lt (Nat.lt_of_lt_of_le h.lt hg)
theorem Mt.notB {w : World} {m lim : Nat} {n : Nm} (h : Mt w m n lim) (hT : Nat.beq 0 5 = false) : ¬ isB w m := by
  rintro ⟨c, fz, hc⟩
  obtain ⟨es, k, h1, _⟩ := h.obj
  rw [h1] at hc; cases hc
theorem Mt.new {w : World} {m : Nat} {n : Nm} (h : w.heap[m]? = some (.map #[] 0)) : Mt w m n w.heap.size := ⟨⟨#[], 0, h, by simp⟩⟩
theorem Mu.lt {w : World} {m lim lv t : Nat} {n : Nm} (h : Mu w m n lim lv t) : m < w.heap.size := h.mt.lt
theorem Mu.ext {w w' : World} {m lim lv t : Nat} {n : Nm} (h : Mu w m n lim lv t) (e : Ext w w') : Mu w' m n lim lv t := ⟨h.mt.ext e, by rw [Below.block e m h.lt]; exact h.miss⟩
theorem Mu.kp {w w' : World} {m lim g lv t : Nat} {n : Nm} (h : Mu w m n lim lv t) (k : Kp g w w') (hn : m ≠ g) (hg : lim ≤ g) : Mu w' m n lim lv t := ⟨h.mt.kp k hn hg, by rw [k.block m hn]; exact h.miss⟩
theorem Mu.grown {w w' : World} {m lim lv t : Nat} {n : Nm} {row : Option Nat} (h : Mu w m n lim lv t) (g : w.grownBy w' row) (hn : row ≠ some m) (hr : ∀ k, row = some k → lim ≤ k) : Mu w' m n lim lv t := ⟨h.mt.grown g hn hr, by rw [g.5 m h.lt (fun e => hn e.symm)]; exact h.miss⟩
theorem Mu.ne {w : World} {m lim g' lv t : Nat} {n : Nm} (h : Mu w m n lim lv t) (hg : w.heap.size ≤ g') : m ≠ g' := h.mt.ne hg
theorem Mu.notB {w : World} {m lim lv t : Nat} {n : Nm} (h : Mu w m n lim lv t) (hT : Nat.beq 0 5 = false) : ¬ isB w m := h.mt.notB hT
section
variable {ρ : Operand → Value} {w : World} {dst : Option Tmp} {ty : TypeId} {pos : String} {aft : Array Edge} {gd : Option (Nat × Bool)}
end
section
variable {ops : Array Oper} {Q : Exit → Act → World → Prop} {K : Act → World → Prop} {n : Nat} {f : Nat → Value} {w : World} {d : Option Tmp} {ty : TypeId} {pos : String} {aft : Array Edge}
end
end Go.Proofs.YteeopgpgbdhmhaaGreat
namespace Go.Proofs.YteeopgpgbdhmhaaGreat
open Go.RowKit
set_option linter.unusedVariables false
set_option linter.unusedSimpArgs false
attribute [local irreducible] wpList wpO H wpQuiet wpStill Code.wp Exit.then Exit.inBlock bodyPost Code.rounds Calls valid sameKey lessV hless num between
set_option maxRecDepth 4000 in
set_option maxHeartbeats 1000000 in
theorem c121 (lk lu : Nat) (v u : Value) (b : List UInt8) (es : List Nm) (w : World) (hlk : lk ≤ w.heap.size) (hbn : b.length ≤ 100000) (hen : es.length ≤ 1000) (hb : OwnB w lk v b) (hu : Ow cN w.heap.size lu w u es) : Calls Tryz.prog 56 [v, u].toArray w (RetX (fun w' => Gr (Value.ownBlock v) w w') (fun r w' => OwnB w' lk r (b ++ es.flatMap Nm.b) ∧ ∀ k, r.ownBlock = some k → Value.ownBlock v = some k ∨ w.heap.size ≤ k)) := by
  refine enter Tryz.func56 Tryz.ntmps56 rfl rfl ?_
  have hE := Gr.refl (Value.ownBlock v) w
  refine wp_seq ?_
  refine W_region ?_
  refine L (D_v (R_assign rfl) ?_)
  refine S_nil ?_
  refine T_tn ?_
  refine wp_seq ?_
  refine wp_seq ?_
  refine W_region ?_
  refine L (D_v (R_assign rfl) ?_)
  refine S_nil ?_
  refine T_tn ?_
  refine wp_block ?_
  refine W_loop (fun mz g W => ∃ (i : Nat) (bb : List UInt8) (r0 : Value), mz = es.length - i ∧ g 0 = r0 ∧ g 1 = u ∧ g 5 = i64 ((i : Nat) : Int) ∧ Gr (Value.ownBlock v) w W ∧ Ow cN w.heap.size lu W u es ∧ OwnB W lk r0 bb ∧ ((∀ k, Value.ownBlock r0 = some k → Value.ownBlock v = some k ∨ w.heap.size ≤ k)) ∧ i ≤ es.length ∧ bb = b ++ (es.take i).flatMap Nm.b) ⟨0, _, _, rfl, rfl, rfl, rfl, hE, hu, hb, (fun k h => .inl h), (Nat.zero_le _), (by simp)⟩ ?_
  rintro mz f3 w3l ⟨i, bb, r0, hm, q0, q1, q5, hE, ou, or0, spr0, hi, hbb⟩
  have hbl : bb.length ≤ b.length + es.length * 8 := by rw [hbb, List.length_append, flat_len, List.length_take]; omega
  refine wp_seq ?_
  refine wp_seq ?_
  refine W_region ?_
  refine L (D_v (R_move q5) ?_)
  refine L (D_v (R_move q1) ?_)
  refine L (D_v (R_len Tryz.underlying22 rfl ou.ls.1) ?_)
  refine L (D_v (R_lssI rfl rfl) ?_)
  refine S_nil ?_
  refine T_tn ?_
  refine W_if rfl (fun c1 => ?_) (fun c1 => ?_)
  ·
    have lk : i < es.length := by have h9 := of_decide_eq_true c1; omega
    refine wp_skip ?_
    refine T_tn ?_
    refine wp_seq ?_
    refine wp_block ?_
    refine W_region ?_
    refine L (D_v (R_move q0) ?_)
    refine L (D_v (R_move q1) ?_)
    refine L (D_v (R_move q5) ?_)
    refine L (D_v (R_elAddr (i := i) Tryz.underlying22 Tryz.sizeOf29 rfl rfl ou.ls.1 (by (try simp only [List.length_take, List.length_drop, List.length_append, List.length_cons, List.length_nil, List.length_replicate, List.length_set, Nm.b_len, be2_len]); omega)) ?_)
    refine L (D_v (R_sliceEl (len := 7) (k := i * 8) Tryz.underlying29 Tryz.sizeOf5 ou.ls.1 (lel_lt (C := cN) (k := 0) (getD_some (d := Nm.zero) (by (try simp only [List.length_take, List.length_drop, List.length_append, List.length_cons, List.length_nil, List.length_replicate, List.length_set, Nm.b_len, be2_len]); omega)) (by decide)) rfl) ?_)
    refine L (D_appendB2 elt5 Tryz.underlying32 rfl rfl or0 (ou.ls.bs (getD_some (d := Nm.zero) (by (try simp only [List.length_take, List.length_drop, List.length_append, List.length_cons, List.length_nil, List.length_replicate, List.length_set, Nm.b_len, be2_len]); omega))) (by (try simp only [List.length_take, List.length_drop, List.length_append, List.length_cons, List.length_nil, List.length_replicate, List.length_set, Nm.b_len, be2_len]); omega) (Nat.le_trans hlk hE.size) (fun v5_5 w5_5 o5_5 g5_5 sv5_5 => ?_))
    have spv5_5 : ∀ k, Value.ownBlock v5_5 = some k → Value.ownBlock v = some k ∨ w.heap.size ≤ k := fun k hk => (sv5_5 k hk).elim (spr0 k) (fun h => .inr (Nat.le_trans hE.size h))
    replace hE := hE.grown g5_5 (spr0)
    replace ou := own_trivL (lo := w.heap.size) (own_grown ou.1 g5_5 (own_ne ou.1 or0 rfl))
    refine L (D_v (R_assign rfl) ?_)
    refine S_nil ?_
    refine T_bn ?_
    refine T_tn ?_
    refine W_region ?_
    refine L (D_v (R_move q5) ?_)
    refine L (D_v (R_addN (m := i) (j := 1) rfl rfl (by (try simp only [List.length_take, List.length_drop, List.length_append, List.length_cons, List.length_nil, List.length_replicate, List.length_set, Nm.b_len, be2_len]); omega)) ?_)
    refine L (D_v (R_assign rfl) ?_)
    refine S_nil ?_
    refine T_tn ?_
    refine ⟨_, _, ?_, rfl, i + 1, _, _, rfl, rfl, q1, rfl, hE, ou, o5_5, spv5_5, ?_, ?_⟩
    all_goals first | omega | exact flatb_next hbb (getD_some lk)
  ·
    obtain rfl : i = es.length := by have h9 := of_decide_eq_false c1; omega
    refine wp_exit ?_
    refine T_te ?_
    refine T_te ?_
    refine T_be ?_
    refine T_tn ?_
    refine wp_seq ?_
    refine W_region ?_
    refine L (D_v (R_move q0) ?_)
    refine L (D_v (R_assign rfl) ?_)
    refine S_nil ?_
    refine T_tn ?_
    refine wp_ret ?_
    refine ret1 (v := r0) rfl rfl ⟨_, rfl, hE, ?_, spr0⟩
    rw [List.take_of_length_le (Nat.le_refl _)] at hbb; rw [← hbb]; exact or0
end Go.Proofs.YteeopgpgbdhmhaaGreat
namespace Go.Proofs.YteeopgpgbdhmhaaGreat
open Go.RowKit Go.Lib
set_option linter.unusedVariables false
def okL (x : Vt) (I : Int) : Bool := valid x && (decide (0 ≤ I) && decide (I < 1024))
def sigI (n : Nm) (I : Int) (x : Nm) : List UInt8 := if (decide (0 ≤ I) && decide (I < 1024)) = true then sigN n I.toNat x else []
def sgP (n : Nm) (I : Int) (x : Vt) : Pv := if okL x I = true then (x, sigI n I (nameV x)) else Pv.zero
theorem rng_no {I : Int} (h : (decide (I < 0) || decide (I ≥ 1024)) = true) : (decide (0 ≤ I) && decide (I < 1024)) = false := by
  rcases Bool.or_eq_true_iff.1 h with h | h
  · have := of_decide_eq_true h; rw [decide_eq_false (show ¬ 0 ≤ I by omega)]; rfl
  · have := of_decide_eq_true h; rw [decide_eq_false (show ¬ I < 1024 by omega), Bool.and_false]
theorem rng_yes {I : Int} (h : (decide (I < 0) || decide (I ≥ 1024)) = false) : 0 ≤ I ∧ I < 1024 := by
  simp only [Bool.or_eq_false_iff, decide_eq_false_iff_not] at h; omega
theorem rng_in {f : Nat} (h : f < 1024) : (decide (0 ≤ ((f : Nat) : Int)) && decide (((f : Nat) : Int) < 1024)) = true := by
  rw [decide_eq_true (by omega), decide_eq_true (by omega)]; rfl
theorem sig_no {n x : Nm} {I : Int} (h : (decide (0 ≤ I) && decide (I < 1024)) = false) : sigI n I x = [] := by unfold sigI; rw [if_neg (by rw [h]; decide)]
theorem okL_nv {x : Vt} {I : Int} (h : (!valid x) = true) : okL x I = false := by unfold okL; rw [Bool.not_eq_true'] at h; rw [h]; rfl
theorem okL_ni {x : Vt} {I : Int} (h : (!(decide (0 ≤ I) && decide (I < 1024))) = true) : okL x I = false := by unfold okL; rw [Bool.not_eq_true'] at h; rw [h, Bool.and_false]
theorem okL_y {x : Vt} {I : Int} (hv : valid x = true) (h : (!(decide (0 ≤ I) && decide (I < 1024))) = false) : okL x I = true := by unfold okL; rw [Bool.not_eq_false'] at h; rw [h, hv]; rfl
theorem sgP_no {n : Nm} {x : Vt} {I : Int} (h : okL x I = false) : sgP n I x = Pv.zero := by unfold sgP; rw [if_neg (by rw [h]; decide)]
theorem sgP_y {n : Nm} {x : Vt} {I : Int} (h : okL x I = true) : sgP n I x = (x, sigI n I (nameV x)) := by unfold sgP; rw [if_pos h]
theorem sgP_nat {n : Nm} {x : Vt} {f : Nat} (h : okL x ((f : Nat) : Int) = true) : sgP n ((f : Nat) : Int) x = (x, sigN n f (nameV x)) := by
  rw [sgP_y h]
  unfold okL at h
  unfold sigI
  rw [if_pos (Bool.and_eq_true_iff.1 h).2]; rfl
theorem ver_yes {n : Nm} {x : Vt} {f : Nat} (hv : valid x = true) (h : f < 1024) : verP (pubN n) (x, sigN n f (nameV x)) = true := by
  unfold verP; rw [ver_sig n (nameV x) h, hv]; rfl
section
variable {P : Program} {ops : Array Oper} {Q : Exit → Act → World → Prop} {K : Act → World → Prop} {n : Nat} {f : Nat → Value} {w : World} {d : Option Tmp} {ty : TypeId} {pos : String} {aft : Array Edge}
end
end Go.Proofs.YteeopgpgbdhmhaaGreat
namespace Go.Proofs.YteeopgpgbdhmhaaGreat
open Go.RowKit Go.Lib
set_option linter.unusedVariables false
def nil1 : Value := .slice none 0 0
def nils : List Value := List.replicate 32 nil1
def kyL (n : Nm) (T : Value) (B : List Value) : List Value := n.l ++ (T :: B)
theorem ky_ble (n : Nm) (T : Value) (B : List Value) : Nat.ble (0 + 8) (kyL n T B).length = true := by
  refine Nat.ble_eq_true_of_le ?_
  unfold kyL
  rw [List.length_append]
  show 0 + 8 ≤ 8 + _
  omega
theorem ky_at {n : Nm} {T : Value} {B : List Value} {t : Nat} {v : Value} (h : B[t]? = some v) : (kyL n T B)[9 + t]? = some v := by
  unfold kyL
  rw [List.getElem?_append_right (by show 8 ≤ 9 + t; omega)]
  rw [show 9 + t - n.l.length = t + 1 by show 9 + t - 8 = t + 1; omega]
  exact h
theorem ky_set {n : Nm} {T : Value} {B : List Value} {t : Nat} {v : Value} : (kyL n T B).set (9 + t) v = kyL n T (B.set t v) := by
  unfold kyL
  rw [List.set_append_right _ _ (by show 8 ≤ 9 + t; omega)]
  rw [show 9 + t - n.l.length = t + 1 by show 9 + t - 8 = t + 1; omega]
  rfl
theorem nils_at {t : Nat} (h : t < 32) : nils[t]? = some nil1 := by
  unfold nils; rw [List.getElem?_replicate, if_pos h]
theorem nset_at {t : Nat} {v : Value} (h : t < 32) : (nils.set t v)[t]? = some v := by
  rw [List.getElem?_set_self (by unfold nils; rw [List.length_replicate]; exact h)]
theorem places159 (w : World) : ((#[⟨"Seed", 29, 0, false, "", "", 0⟩, ⟨"Top", 22, 8, false, "", "", 8⟩, ⟨"Bottom", 123, 9, false, "", "", 32⟩] : Array Field).mapM fun (f : Field) => Prod.mk f.offset <$> sizeOf f.type).run Tryz.prog w = .ok #[(0, 8), (8, 1), (9, 32)] w := by
  simp [Tryz.sizeOf29, Tryz.sizeOf22, Tryz.sizeOf123, go_sem]
theorem fill159 (n : Nm) {T : Value} (hT : T.cells = #[T]) : Instr.fill ((#[(0, 8), (8, 1), (9, 32)] : Array (Nat × Nat))[·]?) (Nm.zero.l ++ (nil1 :: nils)).toArray [(0, .agg n.l.toArray), (1, T)] = some (kyL n T nils).toArray := by
  rw [fill_step (off := 0) (size := 8) (c := n.l) rfl rfl rfl (by decide), fill_step (off := 8) (size := 1) (c := [T]) rfl hT rfl (by simp [Nm.l]), Instr.fill]
  simp [Nm.l, kyL]
section
variable {ρ : Operand → Value} {w : World} {dst : Option Tmp} {ty : TypeId} {pos : String} {aft : Array Edge} {gd : Option (Nat × Bool)}
theorem R_ixBot {x y : Operand} {g t : Nat} {k : IntKind} (hx : ρ x = .pointer (some ⟨g, 9, none⟩)) (hy : ρ y = .int k ((t : Nat) : Int)) (h : t < 32) :
    (execOp ρ ⟨dst, .indexAddr 123 x y, ty, pos, aft, gd⟩).run Tryz.prog w = .ok (.value (.pointer (some ⟨g, 9 + t, none⟩))) w := by
  rw [R_indexAddrA (i := ((t : Nat) : Int)) Tryz.runUnderlying123 Tryz.sizeOf22 hx hy (Int.natCast_nonneg t) (by omega), Int.toNat_natCast, Nat.mul_one]
end
section
variable {ops : Array Oper} {Q : Exit → Act → World → Prop} {K : Act → World → Prop} {n : Nat} {f : Nat → Value} {w : World} {d : Option Tmp} {ty : TypeId} {pos : String} {aft : Array Edge}
theorem D_stBot {x y : Operand} {g t : Nat} {nm : Nm} {T v : Value} {B : List Value} (hb : Blk w g (kyL nm T B) 125) (hx : ov n f x = .pointer (some ⟨g, 9 + t, none⟩)) (hy : ov n f y = v) (hv : plainV v = true) (hl : B.length = 32) (ht : t < 32)
    (k : ∀ w', Kp g w w' → Blk w' g (kyL nm T (B.set t v)) 125 → K (E n (upo f d undef)) w') :
    wpO Tryz.prog ops Q ⟨d, .store 22 x y, ty, pos, aft, none⟩ K (E n f) w := by
  refine D_store1 Tryz.sizeOf22 hb hx hy hv ?_ (fun w' h1 h2 => k w' h1 (by rw [← ky_set]; exact h2))
  refine Nat.ble_eq_true_of_le ?_
  unfold kyL
  rw [List.length_append, List.length_cons, hl]
  show (9 + t) + 1 ≤ 8 + 33
  omega
end
theorem rs_cells {w : World} {v : Value} {m sz : Nat} {cs : List Value} (h : Rs w v m sz cs) : v.cells = #[v] := by
  obtain ⟨_, A, c, rfl, _⟩ := h; rfl
theorem nils_len : nils.length = 32 := by unfold nils; exact List.length_replicate
theorem sig_in2 (n x : Nm) {f : Nat} (h : f < 1024) : sigI n ((f : Nat) : Int) x = (((([by8 (((f : Nat) : Int) / 2 ^ 8), by8 ((f : Nat) : Int)] ++ (oneSig (keyN n 1 (f / 32) (f % 32)) x).flatMap Nm.b) ++ (mpath 32 (leavesN n 1 (f / 32)) (f % 32)).flatMap Nm.b) ++ (oneSig (keyN n 2 0 (f / 32)) (mroot 32 (leavesN n 1 (f / 32)))).flatMap Nm.b) ++ (mpath 32 (leavesN n 2 0) (f / 32)).flatMap Nm.b) := by
  unfold sigI
  rw [if_pos (rng_in h), Int.toNat_natCast]
  unfold sigN partN
  simp only [List.append_assoc]
end Go.Proofs.YteeopgpgbdhmhaaGreat
