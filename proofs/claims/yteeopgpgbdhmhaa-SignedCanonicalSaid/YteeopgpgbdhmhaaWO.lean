/- Walks of the functions on bytes: verifying, decoding. No condition. Printed by wip/mkL.py. -/
import Derived.Test.YteeopgpgbdhmhaaWN
namespace Go.Proofs.Yteeopgpgbdhmhaa
open Go.RowKit
set_option linter.unusedVariables false
set_option linter.unusedSimpArgs false
attribute [local irreducible] wpList wpO H wpQuiet wpStill Code.wp Exit.then Exit.inBlock bodyPost Code.rounds Calls valid sameKey conflict lessV hless num between
-- forkledger/forkledgerref1.Size
set_option maxRecDepth 4000 in
set_option maxHeartbeats 1000000 in
theorem c168_2 (I : Int) (w : World) (hI : I = 2) : Calls Try.prog 168 [i64 I].toArray w (Ret w (i64 370)) := by
  refine enter Try.func168 Try.ntmps168 rfl rfl ?_
  have hE := Ext.refl w
  refine wp_seq ?_
  refine W_region ?_
  refine L (D_v (R_assign rfl) ?_)
  refine S_nil ?_
  refine T_tn ?_
  refine wp_seq ?_
  refine wp_seq ?_
  refine W_region ?_
  refine L (D_v (R_move rfl) ?_)
  refine L (D_v (R_lssI rfl rfl) ?_)
  refine L (D_v (R_move rfl) ?_)
  refine L (D_g1 rfl rfl (fun hb => R_move rfl) ?_)
  refine L (D_g1 rfl rfl (fun hb => R_gtrI (cgE hb) rfl) ?_)
  refine L (D_v (R_pickO rfl rfl rfl) ?_)
  refine S_nil ?_
  refine T_tn ?_
  refine W_if rfl (fun c1 => ?_) (fun c1 => ?_)
  ·
    exfalso; subst hI; simp at c1
  ·
    subst hI
    refine wp_skip ?_
    refine T_tn ?_
    refine wp_seq ?_
    refine W_region ?_
    refine L (D_v (R_move rfl) ?_)
    refine L (D_v (R_cast (v' := .int .i64 (368)) (R_mulI rfl rfl) rfl) ?_)
    refine L (D_v (R_cast (v' := .int .i64 (370)) (R_addI rfl rfl) rfl) ?_)
    refine L (D_v (R_assign rfl) ?_)
    refine S_nil ?_
    refine T_tn ?_
    refine wp_ret ?_
    refine ret1 (v := .int _ _) rfl rfl ⟨?_, hE⟩
    rfl

-- forkledger/forkledgerref1.Capacity
set_option maxRecDepth 4000 in
set_option maxHeartbeats 1000000 in
theorem c169_2  (w : World) : Calls Try.prog 169 [i64 2].toArray w (Ret w (i64 1024)) := by
  refine enter Try.func169 Try.ntmps169 rfl rfl ?_
  have hE := Ext.refl w
  refine wp_seq ?_
  refine W_region ?_
  refine L (D_v (R_assign rfl) ?_)
  refine S_nil ?_
  refine T_tn ?_
  refine wp_seq ?_
  refine wp_seq ?_
  refine W_region ?_
  refine L (D_v (R_move rfl) ?_)
  refine S_nil ?_
  refine T_tn ?_
  refine wp_block ?_
  refine wp_seq ?_
  refine W_region ?_
  refine L (D_v (R_cast (v' := .bool false) (R_eqlI rfl rfl) rfl) ?_)
  refine L (D_v (R_assign rfl) ?_)
  refine S_nil ?_
  refine T_tn ?_
  refine W_iff rfl ?_
  refine wp_seq ?_
  refine W_region ?_
  refine L (D_v (R_cast (v' := .bool true) (R_eqlI rfl rfl) rfl) ?_)
  refine L (D_v (R_assign rfl) ?_)
  refine S_nil ?_
  refine T_tn ?_
  refine W_ift rfl ?_
  refine wp_seq ?_
  refine W_region ?_
  refine L (D_v (R_assign rfl) ?_)
  refine S_nil ?_
  refine T_tn ?_
  refine wp_ret ?_
  refine T_br ?_
  refine T_tr ?_
  refine ret1 (v := .int _ _) rfl rfl ⟨?_, hE⟩
  rfl

-- forkledger/forkledgerref1.Verify
set_option maxRecDepth 4000 in
set_option maxHeartbeats 4000000 in
theorem c139 (pub m : Nm) (v : Value) (b : List UInt8) (I : Int) (w : World) (hI : I = 2) (h : Bs w v b) : Calls Try.prog 139 [pub.v, i64 I, m.v, v].toArray w (Ret w (.bool (ver pub m b))) := by
  refine enter Try.func139 Try.ntmps139 rfl rfl ?_
  have hE := Ext.refl w
  have hbb := h.le
  refine wp_seq ?_
  refine W_region ?_
  refine L (D_box (c := (pub).l) (rfl) (fun aB1_0 w1_0 e1_0 gB1_0 hB1_0 => ?_))
  have lB1_0 := Nat.le_trans hE.size gB1_0
  replace hE := hE.trans e1_0
  refine L (D_box (c := (m).l) (rfl) (fun aB1_1 w1_1 e1_1 gB1_1 hB1_1 => ?_))
  have lB1_1 := Nat.le_trans hE.size gB1_1
  have nB1_0B1_1 := hB1_0.ne gB1_1
  replace hE := hE.trans e1_1
  replace hB1_0 := hB1_0.ext e1_1
  refine L (D_v (R_assign rfl) ?_)
  refine S_nil ?_
  refine T_tn ?_
  refine wp_seq ?_
  refine wp_seq ?_
  refine W_region ?_
  refine L (D_v (R_move rfl) ?_)
  refine L (D_v (R_lssI rfl rfl) ?_)
  refine L (D_v (R_move rfl) ?_)
  refine L (D_g1 rfl rfl (fun hb => R_move rfl) ?_)
  refine L (D_g1 rfl rfl (fun hb => R_gtrI (cgE hb) rfl) ?_)
  refine L (D_v (R_pickO rfl rfl rfl) ?_)
  refine L (D_v (R_move rfl) ?_)
  refine L (D_g1 rfl rfl (fun hb => R_move rfl) ?_)
  refine L (D_g1 rfl rfl (fun hb => R_len Try.underlying31 (cgE hb) (h.ext hE)) ?_)
  refine L (D_g1 rfl rfl (fun hb => R_move rfl) ?_)
  refine L (D_gc1 rfl rfl (fun hb => R_callF Try.call168 (mapv1 (cgE hb)) rfl) (fun hb => c168_2 _ _ hI) (fun w2_10 e2_10 => ?_))
  replace hE := hE.trans e2_10
  replace hB1_0 := hB1_0.ext e2_10
  replace hB1_1 := hB1_1.ext e2_10
  refine L (D_g1 rfl rfl (fun hb => R_neqI (cgE hb) (cgE hb)) ?_)
  refine L (D_v (R_pickO rfl rfl rfl) ?_)
  refine S_nil ?_
  refine T_tn ?_
  refine W_if rfl (fun c1 => ?_) (fun c1 => ?_)
  ·
    subst hI
    have hv : ¬ b.length = 370 := by simp at c1; omega
    refine wp_seq ?_
    refine W_region ?_
    refine L (D_v (R_assign rfl) ?_)
    refine S_nil ?_
    refine T_tn ?_
    refine wp_ret ?_
    refine T_tr ?_
    refine ret1 (v := .bool _) rfl rfl ⟨congrArg (fun b => Ending.returned (Value.bool b)) ?_, hE⟩
    unfold ver; rw [decide_eq_false hv]; rfl
  ·
    subst hI
    have hv : b.length = 370 := by simp at c1; omega
    refine wp_skip ?_
    refine T_tn ?_
    refine wp_seq ?_
    refine W_draw mixed (by kernel_rfl) ?_
    refine Q_v (fun w hw => R_move rfl) ?_
    refine Q_v (fun w hw => R_elAddr (i := 0) Try.underlying31 Try.sizeOf5 rfl rfl (h.ext (hE.trans hw)) (by (try simp only [List.length_take, List.length_drop, List.length_append, List.length_cons, List.length_nil, List.length_replicate, List.length_set, Nm.b_len, be2_len]); omega)) ?_
    refine Q_v (fun w hw => R_loadEl (u := u8 (((b).getD 0 0))) Try.isAgg5 rfl (h.ext (hE.trans hw)) (bl_get (by (try simp only [List.length_take, List.length_drop, List.length_append, List.length_cons, List.length_nil, List.length_replicate, List.length_set, Nm.b_len, be2_len]); omega))) ?_
    refine Q_v (fun w hw => R_convU (b := ((b).getD 0 0)) Try.runUnderlying3 (by decide) rfl) ?_
    refine Q_v (fun w hw => R_shlC (z := 8) rfl rfl (by decide) (by decide)) ?_
    refine Q_v (fun w hw => R_move rfl) ?_
    refine Q_v (fun w hw => R_elAddr (i := 1) Try.underlying31 Try.sizeOf5 rfl rfl (h.ext (hE.trans hw)) (by (try simp only [List.length_take, List.length_drop, List.length_append, List.length_cons, List.length_nil, List.length_replicate, List.length_set, Nm.b_len, be2_len]); omega)) ?_
    refine Q_v (fun w hw => R_loadEl (u := u8 (((b).getD 1 0))) Try.isAgg5 rfl (h.ext (hE.trans hw)) (bl_get (by (try simp only [List.length_take, List.length_drop, List.length_append, List.length_cons, List.length_nil, List.length_replicate, List.length_set, Nm.b_len, be2_len]); omega))) ?_
    refine Q_v (fun w hw => R_convU (b := ((b).getD 1 0)) Try.runUnderlying3 (by decide) rfl) ?_
    refine Q_v (fun w hw => R_or8 (a := ((b).getD 0 0)) (b := ((b).getD 1 0)) rfl rfl) ?_
    refine Q_v (fun w hw => R_assign rfl) ?_
    refine Q_nil (fun w3_99 e3_99 => ?_)
    replace hE := hE.trans e3_99
    replace hB1_0 := hB1_0.ext e3_99
    replace hB1_1 := hB1_1.ext e3_99
    refine T_tn ?_
    refine wp_seq ?_
    refine wp_seq ?_
    refine W_region ?_
    refine L (D_v (R_move rfl) ?_)
    refine L (D_v (R_move rfl) ?_)
    refine L (D_call (R_callF Try.call169 rfl rfl) (c169_2 _) (fun w4_2 e4_2 => ?_))
    replace hE := hE.trans e4_2
    replace hB1_0 := hB1_0.ext e4_2
    replace hB1_1 := hB1_1.ext e4_2
    refine L (D_v (R_geqI rfl rfl) ?_)
    refine S_nil ?_
    refine T_tn ?_
    refine W_if rfl (fun c2 => ?_) (fun c2 => ?_)
    ·
      have hw : ¬ leafNo b < 1024 := by have h1 := of_decide_eq_true c2; unfold leafNo; omega
      refine wp_seq ?_
      refine W_region ?_
      refine L (D_v (R_assign rfl) ?_)
      refine S_nil ?_
      refine T_tn ?_
      refine wp_ret ?_
      refine T_tr ?_
      refine ret1 (v := .bool _) rfl rfl ⟨congrArg (fun b => Ending.returned (Value.bool b)) ?_, hE⟩
      unfold ver; rw [decide_eq_true hv, decide_eq_false hw]; rfl
    ·
      have hw : leafNo b < 1024 := by have h1 := of_decide_eq_false c2; unfold leafNo; omega
      have hw2 : leafNo b = (b.getD 0 0).toNat * 256 + (b.getD 1 0).toNat := rfl
      refine wp_skip ?_
      refine T_tn ?_
      refine wp_seq ?_
      refine W_cut (R := fun g W => ∃ (v5_2 : Value) (aB5_7 : Nat), (g 1 = i64 (2)) ∧ (g 3 = v) ∧ (g 4 = .pointer (some ⟨aB1_0, 0, none⟩)) ∧ (g 9 = i64 (((((b).getD 0 0).toNat * 256 + ((b).getD 1 0).toNat) : Nat) : Int)) ∧ (g 10 = .pointer (some ⟨aB5_7, 0, none⟩)) ∧ Ext w W ∧ Blk W aB1_0 (pub).l 24 ∧ Blk W aB1_1 (m).l 24 ∧ Blk W aB5_7 ((recN m ((nmsAt (b) (2) (18))))).l 24 ∧ w.heap.size ≤ aB5_7 ∧ aB1_0 ≠ aB5_7 ∧ aB1_1 ≠ aB5_7 ∧ Value.ownBlock v5_2 ≠ some aB1_0 ∧ Value.ownBlock v5_2 ≠ some aB1_1 ∧ Value.ownBlock v5_2 ≠ some aB5_7) ?_ ?_
      ·
        refine W_held (fun W => Ext w W ∧ Blk W aB1_0 (pub).l 24 ∧ Blk W aB1_1 (m).l 24 ∧ True) mixed (fun w5_99 e5_99 => ?_)
        replace hE := hE.trans e5_99
        replace hB1_0 := hB1_0.ext e5_99
        replace hB1_1 := hB1_1.ext e5_99
        refine H_take (i := 0) rfl (by kernel_rfl) (by kernel_rfl) (by kernel_rfl) rfl pq_cut ⟨hE, hB1_0, hB1_1, trivial⟩ rfl (fun w hw => R_loadA (c := (m).l) Try.isAgg24 Try.sizeOf24 hw.2.2.1 rfl rfl rfl) ?_
        refine H_take (i := 1) rfl (by kernel_rfl) (by kernel_rfl) (by kernel_rfl) rfl pq_cut ⟨hE, hB1_0, hB1_1, trivial⟩ rfl (fun w hw => R_move rfl) ?_
        refine H_op2 (i := 2) (i2 := 7) (by kernel_rfl) rfl rfl rfl rfl ?_ ?_
        ·
          refine D_callE (R_callF Try.call171 rfl rfl) (c171 v (b) (2) (18) _ (h.ext hE) (by omega) (by omega) (by omega)) (fun v5_2 w5_2 e5_2 p5_2 => ?_)
          have o5_2 := p5_2
          have yv5_2_B1_0 : Value.ownBlock v5_2 ≠ some aB1_0 := fun hk => absurd (own_ge o5_2.1 hk) (Nat.not_le.2 hB1_0.lt)
          have yv5_2_B1_1 : Value.ownBlock v5_2 ≠ some aB1_1 := fun hk => absurd (own_ge o5_2.1 hk) (Nat.not_le.2 hB1_1.lt)
          replace o5_2 := o5_2.low hE.size
          replace o5_2 := Ow.lev (lo' := w.heap.size) o5_2 (fun _ _ _ => trivial)
          replace hE := hE.trans e5_2
          replace hB1_0 := hB1_0.ext e5_2
          replace hB1_1 := hB1_1.ext e5_2
          refine ⟨⟨hE, hB1_0, hB1_1, trivial⟩, ?_⟩
          refine H_op2 (i := 3) (i2 := 7) (by kernel_rfl) rfl rfl rfl rfl ?_ ?_
          ·
            refine D_call (R_callF Try.call170 rfl rfl) (c170 (m) v5_2 ((nmsAt (b) (2) (18))) _ (by first | rfl | omega | exact nmsAt_len _ _ _) (o5_2.ls.lev fun _ _ _ => trivial)) (fun w5_3 e5_3 => ?_)
            replace hE := hE.trans e5_3
            replace hB1_0 := hB1_0.ext e5_3
            replace hB1_1 := hB1_1.ext e5_3
            replace o5_2 := o5_2.ext e5_3
            refine ⟨⟨hE, hB1_0, hB1_1, trivial⟩, ?_⟩
            refine H_take (i := 4) rfl (by kernel_rfl) (by kernel_rfl) (by kernel_rfl) rfl pq_cut ⟨hE, hB1_0, hB1_1, trivial⟩ rfl (fun w hw => R_move rfl) ?_
            refine H_take (i := 5) rfl (by kernel_rfl) (by kernel_rfl) (by kernel_rfl) rfl pq_cut ⟨hE, hB1_0, hB1_1, trivial⟩ rfl (fun w hw => R_extract rfl rfl) ?_
            refine H_take (i := 6) rfl (by kernel_rfl) (by kernel_rfl) (by kernel_rfl) rfl pq_cut ⟨hE, hB1_0, hB1_1, trivial⟩ rfl (fun w hw => R_extract rfl rfl) ?_
            refine H_op (i := 7) (by kernel_rfl) rfl rfl (D_alloc (c := (Nm.zero).l) Try.zeroValue24 rfl (fun aB5_7 w5_7 e5_7 gB5_7 hB5_7 => ?_))
            have lB5_7 := Nat.le_trans hE.size gB5_7
            have nB1_0B5_7 := hB1_0.ne gB5_7
            have nB1_1B5_7 := hB1_1.ne gB5_7
            have yv5_2_B5_7 : Value.ownBlock v5_2 ≠ some aB5_7 := fun hk => absurd (own_lt o5_2.1 hk) (Nat.not_lt.2 gB5_7)
            replace hE := hE.trans e5_7
            replace hB1_0 := hB1_0.ext e5_7
            replace hB1_1 := hB1_1.ext e5_7
            replace o5_2 := o5_2.ext e5_7
            refine ⟨⟨hE, hB1_0, hB1_1, trivial⟩, ?_⟩
            have xo5_2 := yv5_2_B5_7
            have h0 := hB5_7
            refine H_op (i := 8) (by kernel_rfl) rfl rfl (D_storeA Try.sizeOf24 hB5_7 rfl rfl rfl rfl rfl (l' := ((recN m ((nmsAt (b) (2) (18))))).l) rfl (fun w5_8 k5_8 hB5_7 => ?_))
            have f5_8 := Fb.kp k5_8 (Nat.le_trans (Nat.le_refl _) lB5_7) (Blk.notB h0 rfl)
            replace hE := hE.kp k5_8 lB5_7
            replace hB1_0 := hB1_0.kp k5_8 nB1_0B5_7
            replace hB1_1 := hB1_1.kp k5_8 nB1_1B5_7
            replace o5_2 := o5_2.kp k5_8 xo5_2 f5_8
            refine ⟨⟨hE, hB1_0, hB1_1, trivial⟩, ?_⟩
            refine H_take (i := 9) rfl (by kernel_rfl) (by kernel_rfl) (by kernel_rfl) rfl pq_cut ⟨hE, hB1_0, hB1_1, trivial⟩ rfl (fun w hw => R_assign rfl) ?_
            refine H_done (by kernel_rfl) ?_
            exact ⟨rfl, _, rfl, _, _, rfl, rfl, rfl, rfl, rfl, hE, hB1_0, hB1_1, hB5_7, lB5_7, nB1_0B5_7, nB1_1B5_7, yv5_2_B1_0, yv5_2_B1_1, yv5_2_B5_7⟩
          ·
            refine D_alloc (c := (Nm.zero).l) Try.zeroValue24 rfl (fun aB5_7 w5_7 e5_7 gB5_7 hB5_7 => ?_)
            have lB5_7 := Nat.le_trans hE.size gB5_7
            have nB1_0B5_7 := hB1_0.ne gB5_7
            have nB1_1B5_7 := hB1_1.ne gB5_7
            have yv5_2_B5_7 : Value.ownBlock v5_2 ≠ some aB5_7 := fun hk => absurd (own_lt o5_2.1 hk) (Nat.not_lt.2 gB5_7)
            replace hE := hE.trans e5_7
            replace hB1_0 := hB1_0.ext e5_7
            replace hB1_1 := hB1_1.ext e5_7
            replace o5_2 := o5_2.ext e5_7
            refine ⟨⟨hE, hB1_0, hB1_1, trivial⟩, ?_⟩
            refine H_op (i := 3) (by kernel_rfl) rfl rfl (D_call (R_callF Try.call170 rfl rfl) (c170 (m) v5_2 ((nmsAt (b) (2) (18))) _ (by first | rfl | omega | exact nmsAt_len _ _ _) (o5_2.ls.lev fun _ _ _ => trivial)) (fun w5_3 e5_3 => ?_))
            replace hE := hE.trans e5_3
            replace hB1_0 := hB1_0.ext e5_3
            replace hB1_1 := hB1_1.ext e5_3
            replace hB5_7 := hB5_7.ext e5_3
            replace o5_2 := o5_2.ext e5_3
            refine ⟨⟨hE, hB1_0, hB1_1, trivial⟩, ?_⟩
            refine H_take (i := 4) rfl (by kernel_rfl) (by kernel_rfl) (by kernel_rfl) rfl pq_cut ⟨hE, hB1_0, hB1_1, trivial⟩ rfl (fun w hw => R_move rfl) ?_
            refine H_take (i := 5) rfl (by kernel_rfl) (by kernel_rfl) (by kernel_rfl) rfl pq_cut ⟨hE, hB1_0, hB1_1, trivial⟩ rfl (fun w hw => R_extract rfl rfl) ?_
            refine H_take (i := 6) rfl (by kernel_rfl) (by kernel_rfl) (by kernel_rfl) rfl pq_cut ⟨hE, hB1_0, hB1_1, trivial⟩ rfl (fun w hw => R_extract rfl rfl) ?_
            have xo5_2 := yv5_2_B5_7
            have h0 := hB5_7
            refine H_op (i := 8) (by kernel_rfl) rfl rfl (D_storeA Try.sizeOf24 hB5_7 rfl rfl rfl rfl rfl (l' := ((recN m ((nmsAt (b) (2) (18))))).l) rfl (fun w5_8 k5_8 hB5_7 => ?_))
            have f5_8 := Fb.kp k5_8 (Nat.le_trans (Nat.le_refl _) lB5_7) (Blk.notB h0 rfl)
            replace hE := hE.kp k5_8 lB5_7
            replace hB1_0 := hB1_0.kp k5_8 nB1_0B5_7
            replace hB1_1 := hB1_1.kp k5_8 nB1_1B5_7
            replace o5_2 := o5_2.kp k5_8 xo5_2 f5_8
            refine ⟨⟨hE, hB1_0, hB1_1, trivial⟩, ?_⟩
            refine H_take (i := 9) rfl (by kernel_rfl) (by kernel_rfl) (by kernel_rfl) rfl pq_cut ⟨hE, hB1_0, hB1_1, trivial⟩ rfl (fun w hw => R_assign rfl) ?_
            refine H_done (by kernel_rfl) ?_
            exact ⟨rfl, _, rfl, _, _, rfl, rfl, rfl, rfl, rfl, hE, hB1_0, hB1_1, hB5_7, lB5_7, nB1_0B5_7, nB1_1B5_7, yv5_2_B1_0, yv5_2_B1_1, yv5_2_B5_7⟩
        ·
          refine D_alloc (c := (Nm.zero).l) Try.zeroValue24 rfl (fun aB5_7 w5_7 e5_7 gB5_7 hB5_7 => ?_)
          have lB5_7 := Nat.le_trans hE.size gB5_7
          have nB1_0B5_7 := hB1_0.ne gB5_7
          have nB1_1B5_7 := hB1_1.ne gB5_7
          replace hE := hE.trans e5_7
          replace hB1_0 := hB1_0.ext e5_7
          replace hB1_1 := hB1_1.ext e5_7
          refine ⟨⟨hE, hB1_0, hB1_1, trivial⟩, ?_⟩
          refine H_op (i := 2) (by kernel_rfl) rfl rfl (D_callE (R_callF Try.call171 rfl rfl) (c171 v (b) (2) (18) _ (h.ext hE) (by omega) (by omega) (by omega)) (fun v5_2 w5_2 e5_2 p5_2 => ?_))
          have o5_2 := p5_2
          have yv5_2_B1_0 : Value.ownBlock v5_2 ≠ some aB1_0 := fun hk => absurd (own_ge o5_2.1 hk) (Nat.not_le.2 hB1_0.lt)
          have yv5_2_B1_1 : Value.ownBlock v5_2 ≠ some aB1_1 := fun hk => absurd (own_ge o5_2.1 hk) (Nat.not_le.2 hB1_1.lt)
          have yv5_2_B5_7 : Value.ownBlock v5_2 ≠ some aB5_7 := fun hk => absurd (own_ge o5_2.1 hk) (Nat.not_le.2 hB5_7.lt)
          replace o5_2 := o5_2.low hE.size
          replace o5_2 := Ow.lev (lo' := w.heap.size) o5_2 (fun _ _ _ => trivial)
          replace hE := hE.trans e5_2
          replace hB1_0 := hB1_0.ext e5_2
          replace hB1_1 := hB1_1.ext e5_2
          replace hB5_7 := hB5_7.ext e5_2
          refine ⟨⟨hE, hB1_0, hB1_1, trivial⟩, ?_⟩
          refine H_op (i := 3) (by kernel_rfl) rfl rfl (D_call (R_callF Try.call170 rfl rfl) (c170 (m) v5_2 ((nmsAt (b) (2) (18))) _ (by first | rfl | omega | exact nmsAt_len _ _ _) (o5_2.ls.lev fun _ _ _ => trivial)) (fun w5_3 e5_3 => ?_))
          replace hE := hE.trans e5_3
          replace hB1_0 := hB1_0.ext e5_3
          replace hB1_1 := hB1_1.ext e5_3
          replace hB5_7 := hB5_7.ext e5_3
          replace o5_2 := o5_2.ext e5_3
          refine ⟨⟨hE, hB1_0, hB1_1, trivial⟩, ?_⟩
          refine H_take (i := 4) rfl (by kernel_rfl) (by kernel_rfl) (by kernel_rfl) rfl pq_cut ⟨hE, hB1_0, hB1_1, trivial⟩ rfl (fun w hw => R_move rfl) ?_
          refine H_take (i := 5) rfl (by kernel_rfl) (by kernel_rfl) (by kernel_rfl) rfl pq_cut ⟨hE, hB1_0, hB1_1, trivial⟩ rfl (fun w hw => R_extract rfl rfl) ?_
          refine H_take (i := 6) rfl (by kernel_rfl) (by kernel_rfl) (by kernel_rfl) rfl pq_cut ⟨hE, hB1_0, hB1_1, trivial⟩ rfl (fun w hw => R_extract rfl rfl) ?_
          have xo5_2 := yv5_2_B5_7
          have h0 := hB5_7
          refine H_op (i := 8) (by kernel_rfl) rfl rfl (D_storeA Try.sizeOf24 hB5_7 rfl rfl rfl rfl rfl (l' := ((recN m ((nmsAt (b) (2) (18))))).l) rfl (fun w5_8 k5_8 hB5_7 => ?_))
          have f5_8 := Fb.kp k5_8 (Nat.le_trans (Nat.le_refl _) lB5_7) (Blk.notB h0 rfl)
          replace hE := hE.kp k5_8 lB5_7
          replace hB1_0 := hB1_0.kp k5_8 nB1_0B5_7
          replace hB1_1 := hB1_1.kp k5_8 nB1_1B5_7
          replace o5_2 := o5_2.kp k5_8 xo5_2 f5_8
          refine ⟨⟨hE, hB1_0, hB1_1, trivial⟩, ?_⟩
          refine H_take (i := 9) rfl (by kernel_rfl) (by kernel_rfl) (by kernel_rfl) rfl pq_cut ⟨hE, hB1_0, hB1_1, trivial⟩ rfl (fun w hw => R_assign rfl) ?_
          refine H_done (by kernel_rfl) ?_
          exact ⟨rfl, _, rfl, _, _, rfl, rfl, rfl, rfl, rfl, hE, hB1_0, hB1_1, hB5_7, lB5_7, nB1_0B5_7, nB1_1B5_7, yv5_2_B1_0, yv5_2_B1_1, yv5_2_B5_7⟩
      rintro f5 w5c ⟨v5_2, aB5_7, q1, q3, q4, q9, q10, hE, hB1_0, hB1_1, hB5_7, lB5_7, nB1_0B5_7, nB1_1B5_7, yv5_2_B1_0, yv5_2_B1_1, yv5_2_B5_7⟩
      refine T_tn ?_
      refine wp_seq ?_
      refine W_cut (R := fun g W => ∃ (v6_4 : Value) (aB6_9 : Nat), (g 1 = i64 (2)) ∧ (g 3 = v) ∧ (g 4 = .pointer (some ⟨aB1_0, 0, none⟩)) ∧ (g 9 = i64 (((((b).getD 0 0).toNat * 256 + ((b).getD 1 0).toNat) : Nat) : Int)) ∧ (g 12 = .pointer (some ⟨aB6_9, 0, none⟩)) ∧ Ext w W ∧ Blk W aB1_0 (pub).l 24 ∧ Blk W aB5_7 ((recN m ((nmsAt (b) (2) (18))))).l 24 ∧ Blk W aB6_9 ((cmp (32) (recN m ((nmsAt (b) (2) (18)))) (((((b).getD 0 0).toNat * 256 + ((b).getD 1 0).toNat) % 32)) (32) ((nmsAt (b) (146) (5))))).l 24 ∧ w.heap.size ≤ aB6_9 ∧ aB1_0 ≠ aB6_9 ∧ aB5_7 ≠ aB6_9 ∧ Value.ownBlock v6_4 ≠ some aB1_0 ∧ Value.ownBlock v6_4 ≠ some aB5_7 ∧ Value.ownBlock v6_4 ≠ some aB6_9) ?_ ?_
      ·
        refine W_held (fun W => Ext w W ∧ Blk W aB1_0 (pub).l 24 ∧ Blk W aB5_7 ((recN m ((nmsAt (b) (2) (18))))).l 24 ∧ True) mixed (fun w6_99 e6_99 => ?_)
        replace hE := hE.trans e6_99
        replace hB1_0 := hB1_0.ext e6_99
        replace hB5_7 := hB5_7.ext e6_99
        refine H_take (i := 0) rfl (by kernel_rfl) (by kernel_rfl) (by kernel_rfl) rfl pq_cut ⟨hE, hB1_0, hB5_7, trivial⟩ rfl (fun w hw => R_loadA (c := ((recN m ((nmsAt (b) (2) (18))))).l) Try.isAgg24 Try.sizeOf24 hw.2.2.1 q10 rfl rfl) ?_
        refine H_take (i := 1) rfl (by kernel_rfl) (by kernel_rfl) (by kernel_rfl) rfl pq_cut ⟨hE, hB1_0, hB5_7, trivial⟩ rfl (fun w hw => R_move q9) ?_
        refine H_take (i := 2) rfl (by kernel_rfl) (by kernel_rfl) (by kernel_rfl) rfl pq_cut ⟨hE, hB1_0, hB5_7, trivial⟩ rfl (fun w hw => R_remN (m := (((b).getD 0 0).toNat * 256 + ((b).getD 1 0).toNat)) (j := 32) rfl rfl (by decide) (by (try simp only [List.length_take, List.length_drop, List.length_append, List.length_cons, List.length_nil, List.length_replicate, List.length_set, Nm.b_len, be2_len]); omega)) ?_
        refine H_take (i := 3) rfl (by kernel_rfl) (by kernel_rfl) (by kernel_rfl) rfl pq_cut ⟨hE, hB1_0, hB5_7, trivial⟩ rfl (fun w hw => R_move q3) ?_
        refine H_op2 (i := 4) (i2 := 9) (by kernel_rfl) rfl rfl rfl rfl ?_ ?_
        ·
          refine D_callE (R_callF Try.call171 rfl rfl) (c171 v (b) (146) (5) _ (h.ext hE) (by omega) (by omega) (by omega)) (fun v6_4 w6_4 e6_4 p6_4 => ?_)
          have o6_4 := p6_4
          have yv6_4_B1_0 : Value.ownBlock v6_4 ≠ some aB1_0 := fun hk => absurd (own_ge o6_4.1 hk) (Nat.not_le.2 hB1_0.lt)
          have yv6_4_B5_7 : Value.ownBlock v6_4 ≠ some aB5_7 := fun hk => absurd (own_ge o6_4.1 hk) (Nat.not_le.2 hB5_7.lt)
          replace o6_4 := o6_4.low hE.size
          replace o6_4 := Ow.lev (lo' := w.heap.size) o6_4 (fun _ _ _ => trivial)
          replace hE := hE.trans e6_4
          replace hB1_0 := hB1_0.ext e6_4
          replace hB5_7 := hB5_7.ext e6_4
          refine ⟨⟨hE, hB1_0, hB5_7, trivial⟩, ?_⟩
          refine H_op2 (i := 5) (i2 := 9) (by kernel_rfl) rfl rfl rfl rfl ?_ ?_
          ·
            refine D_call (R_callF Try.call172 rfl rfl) (c172s ((recN m ((nmsAt (b) (2) (18))))) (((((b).getD 0 0).toNat * 256 + ((b).getD 1 0).toNat) % 32)) (32) v6_4 ((nmsAt (b) (146) (5))) _ _ rfl (by omega) (by omega) (by rw [nmsAt_len, dep32 _ (by omega)]) (o6_4.ls.lev fun _ _ _ => trivial)) (fun w6_5 e6_5 => ?_)
            replace hE := hE.trans e6_5
            replace hB1_0 := hB1_0.ext e6_5
            replace hB5_7 := hB5_7.ext e6_5
            replace o6_4 := o6_4.ext e6_5
            refine ⟨⟨hE, hB1_0, hB5_7, trivial⟩, ?_⟩
            refine H_take (i := 6) rfl (by kernel_rfl) (by kernel_rfl) (by kernel_rfl) rfl pq_cut ⟨hE, hB1_0, hB5_7, trivial⟩ rfl (fun w hw => R_move rfl) ?_
            refine H_take (i := 7) rfl (by kernel_rfl) (by kernel_rfl) (by kernel_rfl) rfl pq_cut ⟨hE, hB1_0, hB5_7, trivial⟩ rfl (fun w hw => R_extract rfl rfl) ?_
            refine H_take (i := 8) rfl (by kernel_rfl) (by kernel_rfl) (by kernel_rfl) rfl pq_cut ⟨hE, hB1_0, hB5_7, trivial⟩ rfl (fun w hw => R_extract rfl rfl) ?_
            refine H_op (i := 9) (by kernel_rfl) rfl rfl (D_alloc (c := (Nm.zero).l) Try.zeroValue24 rfl (fun aB6_9 w6_9 e6_9 gB6_9 hB6_9 => ?_))
            have lB6_9 := Nat.le_trans hE.size gB6_9
            have nB1_0B6_9 := hB1_0.ne gB6_9
            have nB5_7B6_9 := hB5_7.ne gB6_9
            have yv6_4_B6_9 : Value.ownBlock v6_4 ≠ some aB6_9 := fun hk => absurd (own_lt o6_4.1 hk) (Nat.not_lt.2 gB6_9)
            replace hE := hE.trans e6_9
            replace hB1_0 := hB1_0.ext e6_9
            replace hB5_7 := hB5_7.ext e6_9
            replace o6_4 := o6_4.ext e6_9
            refine ⟨⟨hE, hB1_0, hB5_7, trivial⟩, ?_⟩
            have xo6_4 := yv6_4_B6_9
            have h0 := hB6_9
            refine H_op (i := 10) (by kernel_rfl) rfl rfl (D_storeA Try.sizeOf24 hB6_9 rfl rfl rfl rfl rfl (l' := ((cmp (32) (recN m ((nmsAt (b) (2) (18)))) (((((b).getD 0 0).toNat * 256 + ((b).getD 1 0).toNat) % 32)) (32) ((nmsAt (b) (146) (5))))).l) rfl (fun w6_10 k6_10 hB6_9 => ?_))
            have f6_10 := Fb.kp k6_10 (Nat.le_trans (Nat.le_refl _) lB6_9) (Blk.notB h0 rfl)
            replace hE := hE.kp k6_10 lB6_9
            replace hB1_0 := hB1_0.kp k6_10 nB1_0B6_9
            replace hB5_7 := hB5_7.kp k6_10 nB5_7B6_9
            replace o6_4 := o6_4.kp k6_10 xo6_4 f6_10
            refine ⟨⟨hE, hB1_0, hB5_7, trivial⟩, ?_⟩
            refine H_take (i := 11) rfl (by kernel_rfl) (by kernel_rfl) (by kernel_rfl) rfl pq_cut ⟨hE, hB1_0, hB5_7, trivial⟩ rfl (fun w hw => R_assign rfl) ?_
            refine H_done (by kernel_rfl) ?_
            exact ⟨rfl, _, rfl, _, _, q1, q3, q4, q9, rfl, hE, hB1_0, hB5_7, hB6_9, lB6_9, nB1_0B6_9, nB5_7B6_9, yv6_4_B1_0, yv6_4_B5_7, yv6_4_B6_9⟩
          ·
            refine D_alloc (c := (Nm.zero).l) Try.zeroValue24 rfl (fun aB6_9 w6_9 e6_9 gB6_9 hB6_9 => ?_)
            have lB6_9 := Nat.le_trans hE.size gB6_9
            have nB1_0B6_9 := hB1_0.ne gB6_9
            have nB5_7B6_9 := hB5_7.ne gB6_9
            have yv6_4_B6_9 : Value.ownBlock v6_4 ≠ some aB6_9 := fun hk => absurd (own_lt o6_4.1 hk) (Nat.not_lt.2 gB6_9)
            replace hE := hE.trans e6_9
            replace hB1_0 := hB1_0.ext e6_9
            replace hB5_7 := hB5_7.ext e6_9
            replace o6_4 := o6_4.ext e6_9
            refine ⟨⟨hE, hB1_0, hB5_7, trivial⟩, ?_⟩
            refine H_op (i := 5) (by kernel_rfl) rfl rfl (D_call (R_callF Try.call172 rfl rfl) (c172s ((recN m ((nmsAt (b) (2) (18))))) (((((b).getD 0 0).toNat * 256 + ((b).getD 1 0).toNat) % 32)) (32) v6_4 ((nmsAt (b) (146) (5))) _ _ rfl (by omega) (by omega) (by rw [nmsAt_len, dep32 _ (by omega)]) (o6_4.ls.lev fun _ _ _ => trivial)) (fun w6_5 e6_5 => ?_))
            replace hE := hE.trans e6_5
            replace hB1_0 := hB1_0.ext e6_5
            replace hB5_7 := hB5_7.ext e6_5
            replace hB6_9 := hB6_9.ext e6_5
            replace o6_4 := o6_4.ext e6_5
            refine ⟨⟨hE, hB1_0, hB5_7, trivial⟩, ?_⟩
            refine H_take (i := 6) rfl (by kernel_rfl) (by kernel_rfl) (by kernel_rfl) rfl pq_cut ⟨hE, hB1_0, hB5_7, trivial⟩ rfl (fun w hw => R_move rfl) ?_
            refine H_take (i := 7) rfl (by kernel_rfl) (by kernel_rfl) (by kernel_rfl) rfl pq_cut ⟨hE, hB1_0, hB5_7, trivial⟩ rfl (fun w hw => R_extract rfl rfl) ?_
            refine H_take (i := 8) rfl (by kernel_rfl) (by kernel_rfl) (by kernel_rfl) rfl pq_cut ⟨hE, hB1_0, hB5_7, trivial⟩ rfl (fun w hw => R_extract rfl rfl) ?_
            have xo6_4 := yv6_4_B6_9
            have h0 := hB6_9
            refine H_op (i := 10) (by kernel_rfl) rfl rfl (D_storeA Try.sizeOf24 hB6_9 rfl rfl rfl rfl rfl (l' := ((cmp (32) (recN m ((nmsAt (b) (2) (18)))) (((((b).getD 0 0).toNat * 256 + ((b).getD 1 0).toNat) % 32)) (32) ((nmsAt (b) (146) (5))))).l) rfl (fun w6_10 k6_10 hB6_9 => ?_))
            have f6_10 := Fb.kp k6_10 (Nat.le_trans (Nat.le_refl _) lB6_9) (Blk.notB h0 rfl)
            replace hE := hE.kp k6_10 lB6_9
            replace hB1_0 := hB1_0.kp k6_10 nB1_0B6_9
            replace hB5_7 := hB5_7.kp k6_10 nB5_7B6_9
            replace o6_4 := o6_4.kp k6_10 xo6_4 f6_10
            refine ⟨⟨hE, hB1_0, hB5_7, trivial⟩, ?_⟩
            refine H_take (i := 11) rfl (by kernel_rfl) (by kernel_rfl) (by kernel_rfl) rfl pq_cut ⟨hE, hB1_0, hB5_7, trivial⟩ rfl (fun w hw => R_assign rfl) ?_
            refine H_done (by kernel_rfl) ?_
            exact ⟨rfl, _, rfl, _, _, q1, q3, q4, q9, rfl, hE, hB1_0, hB5_7, hB6_9, lB6_9, nB1_0B6_9, nB5_7B6_9, yv6_4_B1_0, yv6_4_B5_7, yv6_4_B6_9⟩
        ·
          refine D_alloc (c := (Nm.zero).l) Try.zeroValue24 rfl (fun aB6_9 w6_9 e6_9 gB6_9 hB6_9 => ?_)
          have lB6_9 := Nat.le_trans hE.size gB6_9
          have nB1_0B6_9 := hB1_0.ne gB6_9
          have nB5_7B6_9 := hB5_7.ne gB6_9
          replace hE := hE.trans e6_9
          replace hB1_0 := hB1_0.ext e6_9
          replace hB5_7 := hB5_7.ext e6_9
          refine ⟨⟨hE, hB1_0, hB5_7, trivial⟩, ?_⟩
          refine H_op (i := 4) (by kernel_rfl) rfl rfl (D_callE (R_callF Try.call171 rfl rfl) (c171 v (b) (146) (5) _ (h.ext hE) (by omega) (by omega) (by omega)) (fun v6_4 w6_4 e6_4 p6_4 => ?_))
          have o6_4 := p6_4
          have yv6_4_B1_0 : Value.ownBlock v6_4 ≠ some aB1_0 := fun hk => absurd (own_ge o6_4.1 hk) (Nat.not_le.2 hB1_0.lt)
          have yv6_4_B5_7 : Value.ownBlock v6_4 ≠ some aB5_7 := fun hk => absurd (own_ge o6_4.1 hk) (Nat.not_le.2 hB5_7.lt)
          have yv6_4_B6_9 : Value.ownBlock v6_4 ≠ some aB6_9 := fun hk => absurd (own_ge o6_4.1 hk) (Nat.not_le.2 hB6_9.lt)
          replace o6_4 := o6_4.low hE.size
          replace o6_4 := Ow.lev (lo' := w.heap.size) o6_4 (fun _ _ _ => trivial)
          replace hE := hE.trans e6_4
          replace hB1_0 := hB1_0.ext e6_4
          replace hB5_7 := hB5_7.ext e6_4
          replace hB6_9 := hB6_9.ext e6_4
          refine ⟨⟨hE, hB1_0, hB5_7, trivial⟩, ?_⟩
          refine H_op (i := 5) (by kernel_rfl) rfl rfl (D_call (R_callF Try.call172 rfl rfl) (c172s ((recN m ((nmsAt (b) (2) (18))))) (((((b).getD 0 0).toNat * 256 + ((b).getD 1 0).toNat) % 32)) (32) v6_4 ((nmsAt (b) (146) (5))) _ _ rfl (by omega) (by omega) (by rw [nmsAt_len, dep32 _ (by omega)]) (o6_4.ls.lev fun _ _ _ => trivial)) (fun w6_5 e6_5 => ?_))
          replace hE := hE.trans e6_5
          replace hB1_0 := hB1_0.ext e6_5
          replace hB5_7 := hB5_7.ext e6_5
          replace hB6_9 := hB6_9.ext e6_5
          replace o6_4 := o6_4.ext e6_5
          refine ⟨⟨hE, hB1_0, hB5_7, trivial⟩, ?_⟩
          refine H_take (i := 6) rfl (by kernel_rfl) (by kernel_rfl) (by kernel_rfl) rfl pq_cut ⟨hE, hB1_0, hB5_7, trivial⟩ rfl (fun w hw => R_move rfl) ?_
          refine H_take (i := 7) rfl (by kernel_rfl) (by kernel_rfl) (by kernel_rfl) rfl pq_cut ⟨hE, hB1_0, hB5_7, trivial⟩ rfl (fun w hw => R_extract rfl rfl) ?_
          refine H_take (i := 8) rfl (by kernel_rfl) (by kernel_rfl) (by kernel_rfl) rfl pq_cut ⟨hE, hB1_0, hB5_7, trivial⟩ rfl (fun w hw => R_extract rfl rfl) ?_
          have xo6_4 := yv6_4_B6_9
          have h0 := hB6_9
          refine H_op (i := 10) (by kernel_rfl) rfl rfl (D_storeA Try.sizeOf24 hB6_9 rfl rfl rfl rfl rfl (l' := ((cmp (32) (recN m ((nmsAt (b) (2) (18)))) (((((b).getD 0 0).toNat * 256 + ((b).getD 1 0).toNat) % 32)) (32) ((nmsAt (b) (146) (5))))).l) rfl (fun w6_10 k6_10 hB6_9 => ?_))
          have f6_10 := Fb.kp k6_10 (Nat.le_trans (Nat.le_refl _) lB6_9) (Blk.notB h0 rfl)
          replace hE := hE.kp k6_10 lB6_9
          replace hB1_0 := hB1_0.kp k6_10 nB1_0B6_9
          replace hB5_7 := hB5_7.kp k6_10 nB5_7B6_9
          replace o6_4 := o6_4.kp k6_10 xo6_4 f6_10
          refine ⟨⟨hE, hB1_0, hB5_7, trivial⟩, ?_⟩
          refine H_take (i := 11) rfl (by kernel_rfl) (by kernel_rfl) (by kernel_rfl) rfl pq_cut ⟨hE, hB1_0, hB5_7, trivial⟩ rfl (fun w hw => R_assign rfl) ?_
          refine H_done (by kernel_rfl) ?_
          exact ⟨rfl, _, rfl, _, _, q1, q3, q4, q9, rfl, hE, hB1_0, hB5_7, hB6_9, lB6_9, nB1_0B6_9, nB5_7B6_9, yv6_4_B1_0, yv6_4_B5_7, yv6_4_B6_9⟩
      rintro f6 w6c ⟨v6_4, aB6_9, q1, q3, q4, q9, q12, hE, hB1_0, hB5_7, hB6_9, lB6_9, nB1_0B6_9, nB5_7B6_9, yv6_4_B1_0, yv6_4_B5_7, yv6_4_B6_9⟩
      refine T_tn ?_
      refine wp_seq ?_
      refine wp_seq ?_
      refine W_region ?_
      refine L (D_v (R_move q1) ?_)
      refine L (D_v (R_cast (v' := .bool false) (R_eqlI rfl rfl) rfl) ?_)
      refine S_nil ?_
      refine T_tn ?_
      refine W_iff rfl ?_
      refine wp_skip ?_
      refine T_tn ?_
      refine wp_seq ?_
      refine W_cut (R := fun g W => ∃ (v8_2 : Value) (aB8_7 : Nat), (g 3 = v) ∧ (g 4 = .pointer (some ⟨aB1_0, 0, none⟩)) ∧ (g 9 = i64 (((((b).getD 0 0).toNat * 256 + ((b).getD 1 0).toNat) : Nat) : Int)) ∧ (g 14 = .pointer (some ⟨aB8_7, 0, none⟩)) ∧ Ext w W ∧ Blk W aB1_0 (pub).l 24 ∧ Blk W aB6_9 ((cmp (32) (recN m ((nmsAt (b) (2) (18)))) (((((b).getD 0 0).toNat * 256 + ((b).getD 1 0).toNat) % 32)) (32) ((nmsAt (b) (146) (5))))).l 24 ∧ Blk W aB8_7 ((recN (cmp (32) (recN m ((nmsAt (b) (2) (18)))) (((((b).getD 0 0).toNat * 256 + ((b).getD 1 0).toNat) % 32)) (32) ((nmsAt (b) (146) (5)))) ((nmsAt (b) (186) (18))))).l 24 ∧ w.heap.size ≤ aB8_7 ∧ aB1_0 ≠ aB8_7 ∧ aB6_9 ≠ aB8_7 ∧ Value.ownBlock v8_2 ≠ some aB1_0 ∧ Value.ownBlock v8_2 ≠ some aB6_9 ∧ Value.ownBlock v8_2 ≠ some aB8_7) ?_ ?_
      ·
        refine W_held (fun W => Ext w W ∧ Blk W aB1_0 (pub).l 24 ∧ Blk W aB6_9 ((cmp (32) (recN m ((nmsAt (b) (2) (18)))) (((((b).getD 0 0).toNat * 256 + ((b).getD 1 0).toNat) % 32)) (32) ((nmsAt (b) (146) (5))))).l 24 ∧ True) mixed (fun w8_99 e8_99 => ?_)
        replace hE := hE.trans e8_99
        replace hB1_0 := hB1_0.ext e8_99
        replace hB6_9 := hB6_9.ext e8_99
        refine H_take (i := 0) rfl (by kernel_rfl) (by kernel_rfl) (by kernel_rfl) rfl pq_cut ⟨hE, hB1_0, hB6_9, trivial⟩ rfl (fun w hw => R_loadA (c := ((cmp (32) (recN m ((nmsAt (b) (2) (18)))) (((((b).getD 0 0).toNat * 256 + ((b).getD 1 0).toNat) % 32)) (32) ((nmsAt (b) (146) (5))))).l) Try.isAgg24 Try.sizeOf24 hw.2.2.1 q12 rfl rfl) ?_
        refine H_take (i := 1) rfl (by kernel_rfl) (by kernel_rfl) (by kernel_rfl) rfl pq_cut ⟨hE, hB1_0, hB6_9, trivial⟩ rfl (fun w hw => R_move q3) ?_
        refine H_op2 (i := 2) (i2 := 7) (by kernel_rfl) rfl rfl rfl rfl ?_ ?_
        ·
          refine D_callE (R_callF Try.call171 rfl rfl) (c171 v (b) (186) (18) _ (h.ext hE) (by omega) (by omega) (by omega)) (fun v8_2 w8_2 e8_2 p8_2 => ?_)
          have o8_2 := p8_2
          have yv8_2_B1_0 : Value.ownBlock v8_2 ≠ some aB1_0 := fun hk => absurd (own_ge o8_2.1 hk) (Nat.not_le.2 hB1_0.lt)
          have yv8_2_B6_9 : Value.ownBlock v8_2 ≠ some aB6_9 := fun hk => absurd (own_ge o8_2.1 hk) (Nat.not_le.2 hB6_9.lt)
          replace o8_2 := o8_2.low hE.size
          replace o8_2 := Ow.lev (lo' := w.heap.size) o8_2 (fun _ _ _ => trivial)
          replace hE := hE.trans e8_2
          replace hB1_0 := hB1_0.ext e8_2
          replace hB6_9 := hB6_9.ext e8_2
          refine ⟨⟨hE, hB1_0, hB6_9, trivial⟩, ?_⟩
          refine H_op2 (i := 3) (i2 := 7) (by kernel_rfl) rfl rfl rfl rfl ?_ ?_
          ·
            refine D_call (R_callF Try.call170 rfl rfl) (c170 ((cmp (32) (recN m ((nmsAt (b) (2) (18)))) (((((b).getD 0 0).toNat * 256 + ((b).getD 1 0).toNat) % 32)) (32) ((nmsAt (b) (146) (5))))) v8_2 ((nmsAt (b) (186) (18))) _ (by first | rfl | omega | exact nmsAt_len _ _ _) (o8_2.ls.lev fun _ _ _ => trivial)) (fun w8_3 e8_3 => ?_)
            replace hE := hE.trans e8_3
            replace hB1_0 := hB1_0.ext e8_3
            replace hB6_9 := hB6_9.ext e8_3
            replace o8_2 := o8_2.ext e8_3
            refine ⟨⟨hE, hB1_0, hB6_9, trivial⟩, ?_⟩
            refine H_take (i := 4) rfl (by kernel_rfl) (by kernel_rfl) (by kernel_rfl) rfl pq_cut ⟨hE, hB1_0, hB6_9, trivial⟩ rfl (fun w hw => R_move rfl) ?_
            refine H_take (i := 5) rfl (by kernel_rfl) (by kernel_rfl) (by kernel_rfl) rfl pq_cut ⟨hE, hB1_0, hB6_9, trivial⟩ rfl (fun w hw => R_extract rfl rfl) ?_
            refine H_take (i := 6) rfl (by kernel_rfl) (by kernel_rfl) (by kernel_rfl) rfl pq_cut ⟨hE, hB1_0, hB6_9, trivial⟩ rfl (fun w hw => R_extract rfl rfl) ?_
            refine H_op (i := 7) (by kernel_rfl) rfl rfl (D_alloc (c := (Nm.zero).l) Try.zeroValue24 rfl (fun aB8_7 w8_7 e8_7 gB8_7 hB8_7 => ?_))
            have lB8_7 := Nat.le_trans hE.size gB8_7
            have nB1_0B8_7 := hB1_0.ne gB8_7
            have nB6_9B8_7 := hB6_9.ne gB8_7
            have yv8_2_B8_7 : Value.ownBlock v8_2 ≠ some aB8_7 := fun hk => absurd (own_lt o8_2.1 hk) (Nat.not_lt.2 gB8_7)
            replace hE := hE.trans e8_7
            replace hB1_0 := hB1_0.ext e8_7
            replace hB6_9 := hB6_9.ext e8_7
            replace o8_2 := o8_2.ext e8_7
            refine ⟨⟨hE, hB1_0, hB6_9, trivial⟩, ?_⟩
            have xo8_2 := yv8_2_B8_7
            have h0 := hB8_7
            refine H_op (i := 8) (by kernel_rfl) rfl rfl (D_storeA Try.sizeOf24 hB8_7 rfl rfl rfl rfl rfl (l' := ((recN (cmp (32) (recN m ((nmsAt (b) (2) (18)))) (((((b).getD 0 0).toNat * 256 + ((b).getD 1 0).toNat) % 32)) (32) ((nmsAt (b) (146) (5)))) ((nmsAt (b) (186) (18))))).l) rfl (fun w8_8 k8_8 hB8_7 => ?_))
            have f8_8 := Fb.kp k8_8 (Nat.le_trans (Nat.le_refl _) lB8_7) (Blk.notB h0 rfl)
            replace hE := hE.kp k8_8 lB8_7
            replace hB1_0 := hB1_0.kp k8_8 nB1_0B8_7
            replace hB6_9 := hB6_9.kp k8_8 nB6_9B8_7
            replace o8_2 := o8_2.kp k8_8 xo8_2 f8_8
            refine ⟨⟨hE, hB1_0, hB6_9, trivial⟩, ?_⟩
            refine H_take (i := 9) rfl (by kernel_rfl) (by kernel_rfl) (by kernel_rfl) rfl pq_cut ⟨hE, hB1_0, hB6_9, trivial⟩ rfl (fun w hw => R_assign rfl) ?_
            refine H_done (by kernel_rfl) ?_
            exact ⟨rfl, _, rfl, _, _, q3, q4, q9, rfl, hE, hB1_0, hB6_9, hB8_7, lB8_7, nB1_0B8_7, nB6_9B8_7, yv8_2_B1_0, yv8_2_B6_9, yv8_2_B8_7⟩
          ·
            refine D_alloc (c := (Nm.zero).l) Try.zeroValue24 rfl (fun aB8_7 w8_7 e8_7 gB8_7 hB8_7 => ?_)
            have lB8_7 := Nat.le_trans hE.size gB8_7
            have nB1_0B8_7 := hB1_0.ne gB8_7
            have nB6_9B8_7 := hB6_9.ne gB8_7
            have yv8_2_B8_7 : Value.ownBlock v8_2 ≠ some aB8_7 := fun hk => absurd (own_lt o8_2.1 hk) (Nat.not_lt.2 gB8_7)
            replace hE := hE.trans e8_7
            replace hB1_0 := hB1_0.ext e8_7
            replace hB6_9 := hB6_9.ext e8_7
            replace o8_2 := o8_2.ext e8_7
            refine ⟨⟨hE, hB1_0, hB6_9, trivial⟩, ?_⟩
            refine H_op (i := 3) (by kernel_rfl) rfl rfl (D_call (R_callF Try.call170 rfl rfl) (c170 ((cmp (32) (recN m ((nmsAt (b) (2) (18)))) (((((b).getD 0 0).toNat * 256 + ((b).getD 1 0).toNat) % 32)) (32) ((nmsAt (b) (146) (5))))) v8_2 ((nmsAt (b) (186) (18))) _ (by first | rfl | omega | exact nmsAt_len _ _ _) (o8_2.ls.lev fun _ _ _ => trivial)) (fun w8_3 e8_3 => ?_))
            replace hE := hE.trans e8_3
            replace hB1_0 := hB1_0.ext e8_3
            replace hB6_9 := hB6_9.ext e8_3
            replace hB8_7 := hB8_7.ext e8_3
            replace o8_2 := o8_2.ext e8_3
            refine ⟨⟨hE, hB1_0, hB6_9, trivial⟩, ?_⟩
            refine H_take (i := 4) rfl (by kernel_rfl) (by kernel_rfl) (by kernel_rfl) rfl pq_cut ⟨hE, hB1_0, hB6_9, trivial⟩ rfl (fun w hw => R_move rfl) ?_
            refine H_take (i := 5) rfl (by kernel_rfl) (by kernel_rfl) (by kernel_rfl) rfl pq_cut ⟨hE, hB1_0, hB6_9, trivial⟩ rfl (fun w hw => R_extract rfl rfl) ?_
            refine H_take (i := 6) rfl (by kernel_rfl) (by kernel_rfl) (by kernel_rfl) rfl pq_cut ⟨hE, hB1_0, hB6_9, trivial⟩ rfl (fun w hw => R_extract rfl rfl) ?_
            have xo8_2 := yv8_2_B8_7
            have h0 := hB8_7
            refine H_op (i := 8) (by kernel_rfl) rfl rfl (D_storeA Try.sizeOf24 hB8_7 rfl rfl rfl rfl rfl (l' := ((recN (cmp (32) (recN m ((nmsAt (b) (2) (18)))) (((((b).getD 0 0).toNat * 256 + ((b).getD 1 0).toNat) % 32)) (32) ((nmsAt (b) (146) (5)))) ((nmsAt (b) (186) (18))))).l) rfl (fun w8_8 k8_8 hB8_7 => ?_))
            have f8_8 := Fb.kp k8_8 (Nat.le_trans (Nat.le_refl _) lB8_7) (Blk.notB h0 rfl)
            replace hE := hE.kp k8_8 lB8_7
            replace hB1_0 := hB1_0.kp k8_8 nB1_0B8_7
            replace hB6_9 := hB6_9.kp k8_8 nB6_9B8_7
            replace o8_2 := o8_2.kp k8_8 xo8_2 f8_8
            refine ⟨⟨hE, hB1_0, hB6_9, trivial⟩, ?_⟩
            refine H_take (i := 9) rfl (by kernel_rfl) (by kernel_rfl) (by kernel_rfl) rfl pq_cut ⟨hE, hB1_0, hB6_9, trivial⟩ rfl (fun w hw => R_assign rfl) ?_
            refine H_done (by kernel_rfl) ?_
            exact ⟨rfl, _, rfl, _, _, q3, q4, q9, rfl, hE, hB1_0, hB6_9, hB8_7, lB8_7, nB1_0B8_7, nB6_9B8_7, yv8_2_B1_0, yv8_2_B6_9, yv8_2_B8_7⟩
        ·
          refine D_alloc (c := (Nm.zero).l) Try.zeroValue24 rfl (fun aB8_7 w8_7 e8_7 gB8_7 hB8_7 => ?_)
          have lB8_7 := Nat.le_trans hE.size gB8_7
          have nB1_0B8_7 := hB1_0.ne gB8_7
          have nB6_9B8_7 := hB6_9.ne gB8_7
          replace hE := hE.trans e8_7
          replace hB1_0 := hB1_0.ext e8_7
          replace hB6_9 := hB6_9.ext e8_7
          refine ⟨⟨hE, hB1_0, hB6_9, trivial⟩, ?_⟩
          refine H_op (i := 2) (by kernel_rfl) rfl rfl (D_callE (R_callF Try.call171 rfl rfl) (c171 v (b) (186) (18) _ (h.ext hE) (by omega) (by omega) (by omega)) (fun v8_2 w8_2 e8_2 p8_2 => ?_))
          have o8_2 := p8_2
          have yv8_2_B1_0 : Value.ownBlock v8_2 ≠ some aB1_0 := fun hk => absurd (own_ge o8_2.1 hk) (Nat.not_le.2 hB1_0.lt)
          have yv8_2_B6_9 : Value.ownBlock v8_2 ≠ some aB6_9 := fun hk => absurd (own_ge o8_2.1 hk) (Nat.not_le.2 hB6_9.lt)
          have yv8_2_B8_7 : Value.ownBlock v8_2 ≠ some aB8_7 := fun hk => absurd (own_ge o8_2.1 hk) (Nat.not_le.2 hB8_7.lt)
          replace o8_2 := o8_2.low hE.size
          replace o8_2 := Ow.lev (lo' := w.heap.size) o8_2 (fun _ _ _ => trivial)
          replace hE := hE.trans e8_2
          replace hB1_0 := hB1_0.ext e8_2
          replace hB6_9 := hB6_9.ext e8_2
          replace hB8_7 := hB8_7.ext e8_2
          refine ⟨⟨hE, hB1_0, hB6_9, trivial⟩, ?_⟩
          refine H_op (i := 3) (by kernel_rfl) rfl rfl (D_call (R_callF Try.call170 rfl rfl) (c170 ((cmp (32) (recN m ((nmsAt (b) (2) (18)))) (((((b).getD 0 0).toNat * 256 + ((b).getD 1 0).toNat) % 32)) (32) ((nmsAt (b) (146) (5))))) v8_2 ((nmsAt (b) (186) (18))) _ (by first | rfl | omega | exact nmsAt_len _ _ _) (o8_2.ls.lev fun _ _ _ => trivial)) (fun w8_3 e8_3 => ?_))
          replace hE := hE.trans e8_3
          replace hB1_0 := hB1_0.ext e8_3
          replace hB6_9 := hB6_9.ext e8_3
          replace hB8_7 := hB8_7.ext e8_3
          replace o8_2 := o8_2.ext e8_3
          refine ⟨⟨hE, hB1_0, hB6_9, trivial⟩, ?_⟩
          refine H_take (i := 4) rfl (by kernel_rfl) (by kernel_rfl) (by kernel_rfl) rfl pq_cut ⟨hE, hB1_0, hB6_9, trivial⟩ rfl (fun w hw => R_move rfl) ?_
          refine H_take (i := 5) rfl (by kernel_rfl) (by kernel_rfl) (by kernel_rfl) rfl pq_cut ⟨hE, hB1_0, hB6_9, trivial⟩ rfl (fun w hw => R_extract rfl rfl) ?_
          refine H_take (i := 6) rfl (by kernel_rfl) (by kernel_rfl) (by kernel_rfl) rfl pq_cut ⟨hE, hB1_0, hB6_9, trivial⟩ rfl (fun w hw => R_extract rfl rfl) ?_
          have xo8_2 := yv8_2_B8_7
          have h0 := hB8_7
          refine H_op (i := 8) (by kernel_rfl) rfl rfl (D_storeA Try.sizeOf24 hB8_7 rfl rfl rfl rfl rfl (l' := ((recN (cmp (32) (recN m ((nmsAt (b) (2) (18)))) (((((b).getD 0 0).toNat * 256 + ((b).getD 1 0).toNat) % 32)) (32) ((nmsAt (b) (146) (5)))) ((nmsAt (b) (186) (18))))).l) rfl (fun w8_8 k8_8 hB8_7 => ?_))
          have f8_8 := Fb.kp k8_8 (Nat.le_trans (Nat.le_refl _) lB8_7) (Blk.notB h0 rfl)
          replace hE := hE.kp k8_8 lB8_7
          replace hB1_0 := hB1_0.kp k8_8 nB1_0B8_7
          replace hB6_9 := hB6_9.kp k8_8 nB6_9B8_7
          replace o8_2 := o8_2.kp k8_8 xo8_2 f8_8
          refine ⟨⟨hE, hB1_0, hB6_9, trivial⟩, ?_⟩
          refine H_take (i := 9) rfl (by kernel_rfl) (by kernel_rfl) (by kernel_rfl) rfl pq_cut ⟨hE, hB1_0, hB6_9, trivial⟩ rfl (fun w hw => R_assign rfl) ?_
          refine H_done (by kernel_rfl) ?_
          exact ⟨rfl, _, rfl, _, _, q3, q4, q9, rfl, hE, hB1_0, hB6_9, hB8_7, lB8_7, nB1_0B8_7, nB6_9B8_7, yv8_2_B1_0, yv8_2_B6_9, yv8_2_B8_7⟩
      rintro f8 w8c ⟨v8_2, aB8_7, q3, q4, q9, q14, hE, hB1_0, hB6_9, hB8_7, lB8_7, nB1_0B8_7, nB6_9B8_7, yv8_2_B1_0, yv8_2_B6_9, yv8_2_B8_7⟩
      refine T_tn ?_
      refine wp_seq ?_
      refine W_cut (R := fun g W => ∃ (v9_4 : Value) (aB9_9 : Nat), (g 4 = .pointer (some ⟨aB1_0, 0, none⟩)) ∧ (g 16 = .pointer (some ⟨aB9_9, 0, none⟩)) ∧ Ext w W ∧ Blk W aB1_0 (pub).l 24 ∧ Blk W aB8_7 ((recN (cmp (32) (recN m ((nmsAt (b) (2) (18)))) (((((b).getD 0 0).toNat * 256 + ((b).getD 1 0).toNat) % 32)) (32) ((nmsAt (b) (146) (5)))) ((nmsAt (b) (186) (18))))).l 24 ∧ Blk W aB9_9 ((cmp (32) (recN (cmp (32) (recN m ((nmsAt (b) (2) (18)))) (((((b).getD 0 0).toNat * 256 + ((b).getD 1 0).toNat) % 32)) (32) ((nmsAt (b) (146) (5)))) ((nmsAt (b) (186) (18)))) (((((b).getD 0 0).toNat * 256 + ((b).getD 1 0).toNat) / 32)) (32) ((nmsAt (b) (330) (5))))).l 24 ∧ w.heap.size ≤ aB9_9 ∧ aB1_0 ≠ aB9_9 ∧ aB8_7 ≠ aB9_9 ∧ Value.ownBlock v9_4 ≠ some aB1_0 ∧ Value.ownBlock v9_4 ≠ some aB8_7 ∧ Value.ownBlock v9_4 ≠ some aB9_9) ?_ ?_
      ·
        refine W_held (fun W => Ext w W ∧ Blk W aB1_0 (pub).l 24 ∧ Blk W aB8_7 ((recN (cmp (32) (recN m ((nmsAt (b) (2) (18)))) (((((b).getD 0 0).toNat * 256 + ((b).getD 1 0).toNat) % 32)) (32) ((nmsAt (b) (146) (5)))) ((nmsAt (b) (186) (18))))).l 24 ∧ True) mixed (fun w9_99 e9_99 => ?_)
        replace hE := hE.trans e9_99
        replace hB1_0 := hB1_0.ext e9_99
        replace hB8_7 := hB8_7.ext e9_99
        refine H_take (i := 0) rfl (by kernel_rfl) (by kernel_rfl) (by kernel_rfl) rfl pq_cut ⟨hE, hB1_0, hB8_7, trivial⟩ rfl (fun w hw => R_loadA (c := ((recN (cmp (32) (recN m ((nmsAt (b) (2) (18)))) (((((b).getD 0 0).toNat * 256 + ((b).getD 1 0).toNat) % 32)) (32) ((nmsAt (b) (146) (5)))) ((nmsAt (b) (186) (18))))).l) Try.isAgg24 Try.sizeOf24 hw.2.2.1 q14 rfl rfl) ?_
        refine H_take (i := 1) rfl (by kernel_rfl) (by kernel_rfl) (by kernel_rfl) rfl pq_cut ⟨hE, hB1_0, hB8_7, trivial⟩ rfl (fun w hw => R_move q9) ?_
        refine H_take (i := 2) rfl (by kernel_rfl) (by kernel_rfl) (by kernel_rfl) rfl pq_cut ⟨hE, hB1_0, hB8_7, trivial⟩ rfl (fun w hw => R_quoN (m := (((b).getD 0 0).toNat * 256 + ((b).getD 1 0).toNat)) (j := 32) rfl rfl (by decide) (by (try simp only [List.length_take, List.length_drop, List.length_append, List.length_cons, List.length_nil, List.length_replicate, List.length_set, Nm.b_len, be2_len]); omega)) ?_
        refine H_take (i := 3) rfl (by kernel_rfl) (by kernel_rfl) (by kernel_rfl) rfl pq_cut ⟨hE, hB1_0, hB8_7, trivial⟩ rfl (fun w hw => R_move q3) ?_
        refine H_op2 (i := 4) (i2 := 9) (by kernel_rfl) rfl rfl rfl rfl ?_ ?_
        ·
          refine D_callE (R_callF Try.call171 rfl rfl) (c171 v (b) (330) (5) _ (h.ext hE) (by omega) (by omega) (by omega)) (fun v9_4 w9_4 e9_4 p9_4 => ?_)
          have o9_4 := p9_4
          have yv9_4_B1_0 : Value.ownBlock v9_4 ≠ some aB1_0 := fun hk => absurd (own_ge o9_4.1 hk) (Nat.not_le.2 hB1_0.lt)
          have yv9_4_B8_7 : Value.ownBlock v9_4 ≠ some aB8_7 := fun hk => absurd (own_ge o9_4.1 hk) (Nat.not_le.2 hB8_7.lt)
          replace o9_4 := o9_4.low hE.size
          replace o9_4 := Ow.lev (lo' := w.heap.size) o9_4 (fun _ _ _ => trivial)
          replace hE := hE.trans e9_4
          replace hB1_0 := hB1_0.ext e9_4
          replace hB8_7 := hB8_7.ext e9_4
          refine ⟨⟨hE, hB1_0, hB8_7, trivial⟩, ?_⟩
          refine H_op2 (i := 5) (i2 := 9) (by kernel_rfl) rfl rfl rfl rfl ?_ ?_
          ·
            refine D_call (R_callF Try.call172 rfl rfl) (c172s ((recN (cmp (32) (recN m ((nmsAt (b) (2) (18)))) (((((b).getD 0 0).toNat * 256 + ((b).getD 1 0).toNat) % 32)) (32) ((nmsAt (b) (146) (5)))) ((nmsAt (b) (186) (18))))) (((((b).getD 0 0).toNat * 256 + ((b).getD 1 0).toNat) / 32)) (32) v9_4 ((nmsAt (b) (330) (5))) _ _ rfl (by omega) (by omega) (by rw [nmsAt_len, dep32 _ (by omega)]) (o9_4.ls.lev fun _ _ _ => trivial)) (fun w9_5 e9_5 => ?_)
            replace hE := hE.trans e9_5
            replace hB1_0 := hB1_0.ext e9_5
            replace hB8_7 := hB8_7.ext e9_5
            replace o9_4 := o9_4.ext e9_5
            refine ⟨⟨hE, hB1_0, hB8_7, trivial⟩, ?_⟩
            refine H_take (i := 6) rfl (by kernel_rfl) (by kernel_rfl) (by kernel_rfl) rfl pq_cut ⟨hE, hB1_0, hB8_7, trivial⟩ rfl (fun w hw => R_move rfl) ?_
            refine H_take (i := 7) rfl (by kernel_rfl) (by kernel_rfl) (by kernel_rfl) rfl pq_cut ⟨hE, hB1_0, hB8_7, trivial⟩ rfl (fun w hw => R_extract rfl rfl) ?_
            refine H_take (i := 8) rfl (by kernel_rfl) (by kernel_rfl) (by kernel_rfl) rfl pq_cut ⟨hE, hB1_0, hB8_7, trivial⟩ rfl (fun w hw => R_extract rfl rfl) ?_
            refine H_op (i := 9) (by kernel_rfl) rfl rfl (D_alloc (c := (Nm.zero).l) Try.zeroValue24 rfl (fun aB9_9 w9_9 e9_9 gB9_9 hB9_9 => ?_))
            have lB9_9 := Nat.le_trans hE.size gB9_9
            have nB1_0B9_9 := hB1_0.ne gB9_9
            have nB8_7B9_9 := hB8_7.ne gB9_9
            have yv9_4_B9_9 : Value.ownBlock v9_4 ≠ some aB9_9 := fun hk => absurd (own_lt o9_4.1 hk) (Nat.not_lt.2 gB9_9)
            replace hE := hE.trans e9_9
            replace hB1_0 := hB1_0.ext e9_9
            replace hB8_7 := hB8_7.ext e9_9
            replace o9_4 := o9_4.ext e9_9
            refine ⟨⟨hE, hB1_0, hB8_7, trivial⟩, ?_⟩
            have xo9_4 := yv9_4_B9_9
            have h0 := hB9_9
            refine H_op (i := 10) (by kernel_rfl) rfl rfl (D_storeA Try.sizeOf24 hB9_9 rfl rfl rfl rfl rfl (l' := ((cmp (32) (recN (cmp (32) (recN m ((nmsAt (b) (2) (18)))) (((((b).getD 0 0).toNat * 256 + ((b).getD 1 0).toNat) % 32)) (32) ((nmsAt (b) (146) (5)))) ((nmsAt (b) (186) (18)))) (((((b).getD 0 0).toNat * 256 + ((b).getD 1 0).toNat) / 32)) (32) ((nmsAt (b) (330) (5))))).l) rfl (fun w9_10 k9_10 hB9_9 => ?_))
            have f9_10 := Fb.kp k9_10 (Nat.le_trans (Nat.le_refl _) lB9_9) (Blk.notB h0 rfl)
            replace hE := hE.kp k9_10 lB9_9
            replace hB1_0 := hB1_0.kp k9_10 nB1_0B9_9
            replace hB8_7 := hB8_7.kp k9_10 nB8_7B9_9
            replace o9_4 := o9_4.kp k9_10 xo9_4 f9_10
            refine ⟨⟨hE, hB1_0, hB8_7, trivial⟩, ?_⟩
            refine H_take (i := 11) rfl (by kernel_rfl) (by kernel_rfl) (by kernel_rfl) rfl pq_cut ⟨hE, hB1_0, hB8_7, trivial⟩ rfl (fun w hw => R_assign rfl) ?_
            refine H_done (by kernel_rfl) ?_
            exact ⟨rfl, _, rfl, _, _, q4, rfl, hE, hB1_0, hB8_7, hB9_9, lB9_9, nB1_0B9_9, nB8_7B9_9, yv9_4_B1_0, yv9_4_B8_7, yv9_4_B9_9⟩
          ·
            refine D_alloc (c := (Nm.zero).l) Try.zeroValue24 rfl (fun aB9_9 w9_9 e9_9 gB9_9 hB9_9 => ?_)
            have lB9_9 := Nat.le_trans hE.size gB9_9
            have nB1_0B9_9 := hB1_0.ne gB9_9
            have nB8_7B9_9 := hB8_7.ne gB9_9
            have yv9_4_B9_9 : Value.ownBlock v9_4 ≠ some aB9_9 := fun hk => absurd (own_lt o9_4.1 hk) (Nat.not_lt.2 gB9_9)
            replace hE := hE.trans e9_9
            replace hB1_0 := hB1_0.ext e9_9
            replace hB8_7 := hB8_7.ext e9_9
            replace o9_4 := o9_4.ext e9_9
            refine ⟨⟨hE, hB1_0, hB8_7, trivial⟩, ?_⟩
            refine H_op (i := 5) (by kernel_rfl) rfl rfl (D_call (R_callF Try.call172 rfl rfl) (c172s ((recN (cmp (32) (recN m ((nmsAt (b) (2) (18)))) (((((b).getD 0 0).toNat * 256 + ((b).getD 1 0).toNat) % 32)) (32) ((nmsAt (b) (146) (5)))) ((nmsAt (b) (186) (18))))) (((((b).getD 0 0).toNat * 256 + ((b).getD 1 0).toNat) / 32)) (32) v9_4 ((nmsAt (b) (330) (5))) _ _ rfl (by omega) (by omega) (by rw [nmsAt_len, dep32 _ (by omega)]) (o9_4.ls.lev fun _ _ _ => trivial)) (fun w9_5 e9_5 => ?_))
            replace hE := hE.trans e9_5
            replace hB1_0 := hB1_0.ext e9_5
            replace hB8_7 := hB8_7.ext e9_5
            replace hB9_9 := hB9_9.ext e9_5
            replace o9_4 := o9_4.ext e9_5
            refine ⟨⟨hE, hB1_0, hB8_7, trivial⟩, ?_⟩
            refine H_take (i := 6) rfl (by kernel_rfl) (by kernel_rfl) (by kernel_rfl) rfl pq_cut ⟨hE, hB1_0, hB8_7, trivial⟩ rfl (fun w hw => R_move rfl) ?_
            refine H_take (i := 7) rfl (by kernel_rfl) (by kernel_rfl) (by kernel_rfl) rfl pq_cut ⟨hE, hB1_0, hB8_7, trivial⟩ rfl (fun w hw => R_extract rfl rfl) ?_
            refine H_take (i := 8) rfl (by kernel_rfl) (by kernel_rfl) (by kernel_rfl) rfl pq_cut ⟨hE, hB1_0, hB8_7, trivial⟩ rfl (fun w hw => R_extract rfl rfl) ?_
            have xo9_4 := yv9_4_B9_9
            have h0 := hB9_9
            refine H_op (i := 10) (by kernel_rfl) rfl rfl (D_storeA Try.sizeOf24 hB9_9 rfl rfl rfl rfl rfl (l' := ((cmp (32) (recN (cmp (32) (recN m ((nmsAt (b) (2) (18)))) (((((b).getD 0 0).toNat * 256 + ((b).getD 1 0).toNat) % 32)) (32) ((nmsAt (b) (146) (5)))) ((nmsAt (b) (186) (18)))) (((((b).getD 0 0).toNat * 256 + ((b).getD 1 0).toNat) / 32)) (32) ((nmsAt (b) (330) (5))))).l) rfl (fun w9_10 k9_10 hB9_9 => ?_))
            have f9_10 := Fb.kp k9_10 (Nat.le_trans (Nat.le_refl _) lB9_9) (Blk.notB h0 rfl)
            replace hE := hE.kp k9_10 lB9_9
            replace hB1_0 := hB1_0.kp k9_10 nB1_0B9_9
            replace hB8_7 := hB8_7.kp k9_10 nB8_7B9_9
            replace o9_4 := o9_4.kp k9_10 xo9_4 f9_10
            refine ⟨⟨hE, hB1_0, hB8_7, trivial⟩, ?_⟩
            refine H_take (i := 11) rfl (by kernel_rfl) (by kernel_rfl) (by kernel_rfl) rfl pq_cut ⟨hE, hB1_0, hB8_7, trivial⟩ rfl (fun w hw => R_assign rfl) ?_
            refine H_done (by kernel_rfl) ?_
            exact ⟨rfl, _, rfl, _, _, q4, rfl, hE, hB1_0, hB8_7, hB9_9, lB9_9, nB1_0B9_9, nB8_7B9_9, yv9_4_B1_0, yv9_4_B8_7, yv9_4_B9_9⟩
        ·
          refine D_alloc (c := (Nm.zero).l) Try.zeroValue24 rfl (fun aB9_9 w9_9 e9_9 gB9_9 hB9_9 => ?_)
          have lB9_9 := Nat.le_trans hE.size gB9_9
          have nB1_0B9_9 := hB1_0.ne gB9_9
          have nB8_7B9_9 := hB8_7.ne gB9_9
          replace hE := hE.trans e9_9
          replace hB1_0 := hB1_0.ext e9_9
          replace hB8_7 := hB8_7.ext e9_9
          refine ⟨⟨hE, hB1_0, hB8_7, trivial⟩, ?_⟩
          refine H_op (i := 4) (by kernel_rfl) rfl rfl (D_callE (R_callF Try.call171 rfl rfl) (c171 v (b) (330) (5) _ (h.ext hE) (by omega) (by omega) (by omega)) (fun v9_4 w9_4 e9_4 p9_4 => ?_))
          have o9_4 := p9_4
          have yv9_4_B1_0 : Value.ownBlock v9_4 ≠ some aB1_0 := fun hk => absurd (own_ge o9_4.1 hk) (Nat.not_le.2 hB1_0.lt)
          have yv9_4_B8_7 : Value.ownBlock v9_4 ≠ some aB8_7 := fun hk => absurd (own_ge o9_4.1 hk) (Nat.not_le.2 hB8_7.lt)
          have yv9_4_B9_9 : Value.ownBlock v9_4 ≠ some aB9_9 := fun hk => absurd (own_ge o9_4.1 hk) (Nat.not_le.2 hB9_9.lt)
          replace o9_4 := o9_4.low hE.size
          replace o9_4 := Ow.lev (lo' := w.heap.size) o9_4 (fun _ _ _ => trivial)
          replace hE := hE.trans e9_4
          replace hB1_0 := hB1_0.ext e9_4
          replace hB8_7 := hB8_7.ext e9_4
          replace hB9_9 := hB9_9.ext e9_4
          refine ⟨⟨hE, hB1_0, hB8_7, trivial⟩, ?_⟩
          refine H_op (i := 5) (by kernel_rfl) rfl rfl (D_call (R_callF Try.call172 rfl rfl) (c172s ((recN (cmp (32) (recN m ((nmsAt (b) (2) (18)))) (((((b).getD 0 0).toNat * 256 + ((b).getD 1 0).toNat) % 32)) (32) ((nmsAt (b) (146) (5)))) ((nmsAt (b) (186) (18))))) (((((b).getD 0 0).toNat * 256 + ((b).getD 1 0).toNat) / 32)) (32) v9_4 ((nmsAt (b) (330) (5))) _ _ rfl (by omega) (by omega) (by rw [nmsAt_len, dep32 _ (by omega)]) (o9_4.ls.lev fun _ _ _ => trivial)) (fun w9_5 e9_5 => ?_))
          replace hE := hE.trans e9_5
          replace hB1_0 := hB1_0.ext e9_5
          replace hB8_7 := hB8_7.ext e9_5
          replace hB9_9 := hB9_9.ext e9_5
          replace o9_4 := o9_4.ext e9_5
          refine ⟨⟨hE, hB1_0, hB8_7, trivial⟩, ?_⟩
          refine H_take (i := 6) rfl (by kernel_rfl) (by kernel_rfl) (by kernel_rfl) rfl pq_cut ⟨hE, hB1_0, hB8_7, trivial⟩ rfl (fun w hw => R_move rfl) ?_
          refine H_take (i := 7) rfl (by kernel_rfl) (by kernel_rfl) (by kernel_rfl) rfl pq_cut ⟨hE, hB1_0, hB8_7, trivial⟩ rfl (fun w hw => R_extract rfl rfl) ?_
          refine H_take (i := 8) rfl (by kernel_rfl) (by kernel_rfl) (by kernel_rfl) rfl pq_cut ⟨hE, hB1_0, hB8_7, trivial⟩ rfl (fun w hw => R_extract rfl rfl) ?_
          have xo9_4 := yv9_4_B9_9
          have h0 := hB9_9
          refine H_op (i := 10) (by kernel_rfl) rfl rfl (D_storeA Try.sizeOf24 hB9_9 rfl rfl rfl rfl rfl (l' := ((cmp (32) (recN (cmp (32) (recN m ((nmsAt (b) (2) (18)))) (((((b).getD 0 0).toNat * 256 + ((b).getD 1 0).toNat) % 32)) (32) ((nmsAt (b) (146) (5)))) ((nmsAt (b) (186) (18)))) (((((b).getD 0 0).toNat * 256 + ((b).getD 1 0).toNat) / 32)) (32) ((nmsAt (b) (330) (5))))).l) rfl (fun w9_10 k9_10 hB9_9 => ?_))
          have f9_10 := Fb.kp k9_10 (Nat.le_trans (Nat.le_refl _) lB9_9) (Blk.notB h0 rfl)
          replace hE := hE.kp k9_10 lB9_9
          replace hB1_0 := hB1_0.kp k9_10 nB1_0B9_9
          replace hB8_7 := hB8_7.kp k9_10 nB8_7B9_9
          replace o9_4 := o9_4.kp k9_10 xo9_4 f9_10
          refine ⟨⟨hE, hB1_0, hB8_7, trivial⟩, ?_⟩
          refine H_take (i := 11) rfl (by kernel_rfl) (by kernel_rfl) (by kernel_rfl) rfl pq_cut ⟨hE, hB1_0, hB8_7, trivial⟩ rfl (fun w hw => R_assign rfl) ?_
          refine H_done (by kernel_rfl) ?_
          exact ⟨rfl, _, rfl, _, _, q4, rfl, hE, hB1_0, hB8_7, hB9_9, lB9_9, nB1_0B9_9, nB8_7B9_9, yv9_4_B1_0, yv9_4_B8_7, yv9_4_B9_9⟩
      rintro f9 w9c ⟨v9_4, aB9_9, q4, q16, hE, hB1_0, hB8_7, hB9_9, lB9_9, nB1_0B9_9, nB8_7B9_9, yv9_4_B1_0, yv9_4_B8_7, yv9_4_B9_9⟩
      refine T_tn ?_
      refine wp_seq ?_
      refine W_region ?_
      refine L (D_v (R_loadA (c := ((cmp (32) (recN (cmp (32) (recN m ((nmsAt (b) (2) (18)))) (((((b).getD 0 0).toNat * 256 + ((b).getD 1 0).toNat) % 32)) (32) ((nmsAt (b) (146) (5)))) ((nmsAt (b) (186) (18)))) (((((b).getD 0 0).toNat * 256 + ((b).getD 1 0).toNat) / 32)) (32) ((nmsAt (b) (330) (5))))).l) Try.isAgg24 Try.sizeOf24 hB9_9 q16 rfl rfl) ?_)
      refine L (D_v (R_loadA (c := (pub).l) Try.isAgg24 Try.sizeOf24 hB1_0 q4 rfl rfl) ?_)
      refine L (D_v (R_eqlA Try.eqGuardType24 (eq24 ((cmp (32) (recN (cmp (32) (recN m ((nmsAt (b) (2) (18)))) (((((b).getD 0 0).toNat * 256 + ((b).getD 1 0).toNat) % 32)) (32) ((nmsAt (b) (146) (5)))) ((nmsAt (b) (186) (18)))) (((((b).getD 0 0).toNat * 256 + ((b).getD 1 0).toNat) / 32)) (32) ((nmsAt (b) (330) (5))))) (pub) _) rfl rfl) ?_)
      refine L (D_v (R_assign rfl) ?_)
      refine S_nil ?_
      refine T_tn ?_
      refine wp_ret ?_
      refine ret1 (v := .bool _) rfl rfl ⟨congrArg (fun b => Ending.returned (Value.bool b)) ?_, hE⟩
      unfold ver; rw [decide_eq_true hv, decide_eq_true hw]; rfl

-- forkledger/signed.Verify
set_option maxRecDepth 4000 in
set_option maxHeartbeats 1000000 in
theorem c75 (key : Nm) (x : Sg) (w : World) (hs : x.okf w.heap.size w) : Calls Try.prog 75 [key.v, x.v].toArray w (Ret w (.bool (verP key x.p))) := by
  refine enter Try.func75 Try.ntmps75 rfl rfl ?_
  have hE := Ext.refl w
  refine wp_seq ?_
  refine W_region ?_
  refine L (D_box (c := (key).l) (rfl) (fun aB1_0 w1_0 e1_0 gB1_0 hB1_0 => ?_))
  have lB1_0 := Nat.le_trans hE.size gB1_0
  replace hE := hE.trans e1_0
  refine L (D_box (c := (x).l) (rfl) (fun aB1_1 w1_1 e1_1 gB1_1 hB1_1 => ?_))
  have lB1_1 := Nat.le_trans hE.size gB1_1
  have nB1_0B1_1 := hB1_0.ne gB1_1
  replace hE := hE.trans e1_1
  replace hB1_0 := hB1_0.ext e1_1
  refine L (D_v (R_assign rfl) ?_)
  refine S_nil ?_
  refine T_tn ?_
  refine wp_seq ?_
  refine W_draw mixed (by kernel_rfl) ?_
  refine Q_v (fun w hw => R_fieldAddr Try.runUnderlying53 rfl Try.sizeOf26 rfl) ?_
  refine Q_v (fun w hw => R_loadA (c := ((x).vote).l) Try.isAgg26 Try.sizeOf26 (hB1_1.ext hw) rfl rfl rfl) ?_
  refine Q_call (fun w hw => R_callF Try.call26 rfl rfl) (fun w hw => c26 ((x).vote) _ ) ?_
  refine Q_v (fun w hw => R_move rfl) ?_
  refine Q_g1 rfl rfl (fun hb w hw => R_loadA (c := (key).l) Try.isAgg24 Try.sizeOf24 (hB1_0.ext hw) rfl rfl rfl) ?_
  refine Q_g1 rfl rfl (fun hb w hw => R_fieldAddr Try.runUnderlying53 rfl Try.sizeOf26 rfl) ?_
  refine Q_g1 rfl rfl (fun hb w hw => R_loadA (c := ((x).vote).l) Try.isAgg26 Try.sizeOf26 (hB1_1.ext hw) (cgE hb) rfl rfl) ?_
  refine Q_gc1 rfl rfl (fun hb w hw => R_callF Try.call36 (mapv1 (cgE hb)) rfl) (fun hb w hw => c36 ((x).vote) _) ?_
  refine Q_g1 rfl rfl (fun hb w hw => R_fieldAddr Try.runUnderlying53 rfl Try.sizeOf31 rfl) ?_
  refine Q_g1 rfl rfl (fun hb w hw => R_load Try.isAgg31 (hB1_1.ext hw) (cgE hb) rfl) ?_
  refine Q_gc1 rfl rfl (fun hb w hw => R_callF Try.call105 (mapv4 (cgE hb) rfl (cgE hb) (cgE hb)) rfl) (fun hb w hw => c105 (key) ((nameV (x).vote)) (.slice (x).A (x).n (x).c) ((x).sig) _ (hs.fb (Fb.ext (hE.trans hw))).bs) ?_
  refine Q_v (fun w hw => R_pickA rfl rfl rfl) ?_
  refine Q_v (fun w hw => R_assign rfl) ?_
  refine Q_nil (fun w2_99 e2_99 => ?_)
  replace hE := hE.trans e2_99
  replace hB1_0 := hB1_0.ext e2_99
  replace hB1_1 := hB1_1.ext e2_99
  refine T_tn ?_
  refine wp_ret ?_
  refine ret1 (v := .bool _) rfl rfl ⟨congrArg (fun b => Ending.returned (Value.bool b)) ?_, hE⟩
  unfold verP Sg.p; rfl

-- forkledger/forkledgerref6.Verify
set_option maxRecDepth 4000 in
set_option maxHeartbeats 1000000 in
theorem c116 (key : Nm) (x : Sg) (w : World) (hs : x.okf w.heap.size w) : Calls Try.prog 116 [key.v, x.v].toArray w (Ret w (.bool (verP key x.p))) := by
  refine enter Try.func116 Try.ntmps116 rfl rfl ?_
  have hE := Ext.refl w
  refine wp_seq ?_
  refine W_region ?_
  refine L (D_box (c := (key).l) (rfl) (fun aB1_0 w1_0 e1_0 gB1_0 hB1_0 => ?_))
  have lB1_0 := Nat.le_trans hE.size gB1_0
  replace hE := hE.trans e1_0
  refine L (D_box (c := (x).l) (rfl) (fun aB1_1 w1_1 e1_1 gB1_1 hB1_1 => ?_))
  have lB1_1 := Nat.le_trans hE.size gB1_1
  have nB1_0B1_1 := hB1_0.ne gB1_1
  replace hE := hE.trans e1_1
  replace hB1_0 := hB1_0.ext e1_1
  refine L (D_v (R_assign rfl) ?_)
  refine S_nil ?_
  refine T_tn ?_
  refine wp_seq ?_
  refine W_draw mixed (by kernel_rfl) ?_
  refine Q_v (fun w hw => R_fieldAddr Try.runUnderlying53 rfl Try.sizeOf26 rfl) ?_
  refine Q_v (fun w hw => R_loadA (c := ((x).vote).l) Try.isAgg26 Try.sizeOf26 (hB1_1.ext hw) rfl rfl rfl) ?_
  refine Q_call (fun w hw => R_callF Try.call27 rfl rfl) (fun w hw => c27 ((x).vote) _ ) ?_
  refine Q_v (fun w hw => R_move rfl) ?_
  refine Q_g1 rfl rfl (fun hb w hw => R_loadA (c := (key).l) Try.isAgg24 Try.sizeOf24 (hB1_0.ext hw) rfl rfl rfl) ?_
  refine Q_g1 rfl rfl (fun hb w hw => R_fieldAddr Try.runUnderlying53 rfl Try.sizeOf26 rfl) ?_
  refine Q_g1 rfl rfl (fun hb w hw => R_loadA (c := ((x).vote).l) Try.isAgg26 Try.sizeOf26 (hB1_1.ext hw) (cgE hb) rfl rfl) ?_
  refine Q_gc1 rfl rfl (fun hb w hw => R_callF Try.call39 (mapv1 (cgE hb)) rfl) (fun hb w hw => c39 ((x).vote) _) ?_
  refine Q_g1 rfl rfl (fun hb w hw => R_fieldAddr Try.runUnderlying53 rfl Try.sizeOf31 rfl) ?_
  refine Q_g1 rfl rfl (fun hb w hw => R_load Try.isAgg31 (hB1_1.ext hw) (cgE hb) rfl) ?_
  refine Q_gc1 rfl rfl (fun hb w hw => R_callF Try.call139 (mapv4 (cgE hb) rfl (cgE hb) (cgE hb)) rfl) (fun hb w hw => c139 (key) ((nameV (x).vote)) (.slice (x).A (x).n (x).c) ((x).sig) _ _ rfl (hs.fb (Fb.ext (hE.trans hw))).bs) ?_
  refine Q_v (fun w hw => R_pickA rfl rfl rfl) ?_
  refine Q_v (fun w hw => R_assign rfl) ?_
  refine Q_nil (fun w2_99 e2_99 => ?_)
  replace hE := hE.trans e2_99
  replace hB1_0 := hB1_0.ext e2_99
  replace hB1_1 := hB1_1.ext e2_99
  refine T_tn ?_
  refine wp_ret ?_
  refine ret1 (v := .bool _) rfl rfl ⟨congrArg (fun b => Ending.returned (Value.bool b)) ?_, hE⟩
  unfold verP Sg.p; rfl

-- forkledger/signed.Decode
set_option maxRecDepth 4000 in
set_option maxHeartbeats 2000000 in
theorem c68 (v : Value) (b : List UInt8) (w : World) (h : Bs w v b) : Calls Try.prog 68 [v].toArray w (RetE w fun r w' => ∃ x : Sg, r = .tuple #[x.v, i64 (decS b).2] ∧ x.p = (decS b).1 ∧ x.okf 0 w') := by
  refine enter Try.func68 Try.ntmps68 rfl rfl ?_
  have hE := Ext.refl w
  refine wp_seq ?_
  refine W_region ?_
  refine L (D_alloc (c := (Sg.zero).l) Try.zeroValue53 rfl (fun aB1_0 w1_0 e1_0 gB1_0 hB1_0 => ?_))
  have lB1_0 := Nat.le_trans hE.size gB1_0
  replace hE := hE.trans e1_0
  refine L (D_v (R_assign rfl) ?_)
  refine S_nil ?_
  refine T_tn ?_
  refine wp_seq ?_
  refine wp_block ?_
  refine wp_seq ?_
  refine W_region ?_
  refine L (D_v (R_move rfl) ?_)
  refine L (D_v (R_len Try.underlying31 rfl (h.ext hE)) ?_)
  refine L (D_v (R_lssI rfl rfl) ?_)
  refine L (D_v (R_assign rfl) ?_)
  refine S_nil ?_
  refine T_tn ?_
  refine W_if rfl (fun c1 => ?_) (fun c1 => ?_)
  ·
    have hl : b.length < 393 := by simp at c1; omega
    refine wp_seq ?_
    refine W_region ?_
    refine L (D_v (R_buildS (c := Sg.zero.l) Try.runUnderlying53 places53 Try.zeroValue53 rfl rfl) ?_)
    have h0 := hB1_0
    refine L (D_storeA Try.sizeOf53 hB1_0 rfl rfl rfl rfl rfl (l' := (Sg.zero).l) rfl (fun w3_1 k3_1 hB1_0 => ?_))
    replace hE := hE.kp k3_1 lB1_0
    refine L (D_v (R_assign rfl) ?_)
    refine S_nil ?_
    refine T_tn ?_
    refine wp_ret ?_
    refine T_br ?_
    refine T_tr ?_
    refine retct (c := (Sg.zero).l) (v2 := i64 (2)) rfl rfl rfl Try.isAgg53 Try.sizeOf53 hB1_0 rfl rfl ⟨_, rfl, hE, ?_⟩
    rw [decS_short hl]
    exact ⟨Sg.zero, rfl, rfl, Sg.okz 0 _⟩
  ·
    have hl1 : ¬ b.length < 393 := by simp at c1; omega
    refine wp_seq ?_
    refine W_region ?_
    refine L (D_v (R_move rfl) ?_)
    refine L (D_v (R_len Try.underlying31 rfl (h.ext hE)) ?_)
    refine L (D_v (R_gtrI rfl rfl) ?_)
    refine L (D_v (R_assign rfl) ?_)
    refine S_nil ?_
    refine T_tn ?_
    refine W_if rfl (fun c2 => ?_) (fun c2 => ?_)
    ·
      have hl : 393 < b.length := by simp at c2; omega
      refine wp_seq ?_
      refine W_region ?_
      refine L (D_v (R_buildS (c := Sg.zero.l) Try.runUnderlying53 places53 Try.zeroValue53 rfl rfl) ?_)
      have h0 := hB1_0
      refine L (D_storeA Try.sizeOf53 hB1_0 rfl rfl rfl rfl rfl (l' := (Sg.zero).l) rfl (fun w4_1 k4_1 hB1_0 => ?_))
      replace hE := hE.kp k4_1 lB1_0
      refine L (D_v (R_assign rfl) ?_)
      refine S_nil ?_
      refine T_tn ?_
      refine wp_ret ?_
      refine T_br ?_
      refine T_tr ?_
      refine retct (c := (Sg.zero).l) (v2 := i64 (3)) rfl rfl rfl Try.isAgg53 Try.sizeOf53 hB1_0 rfl rfl ⟨_, rfl, hE, ?_⟩
      rw [decS_long hl]
      exact ⟨Sg.zero, rfl, rfl, Sg.okz 0 _⟩
    ·
      have hl : b.length = 393 := by simp at c2; omega
      refine wp_skip ?_
      refine T_bn ?_
      refine T_tn ?_
      refine wp_seq ?_
      refine W_region ?_
      refine L (D_v (R_move rfl) ?_)
      refine L (D_v (R_sliceHi (j := 23) Try.underlying31 Try.sizeOf5 rfl rfl (h.ext hE) (by (try simp only [List.length_take, List.length_drop, List.length_append, List.length_cons, List.length_nil, List.length_replicate, List.length_set, Nm.b_len, be2_len]); omega)) ?_)
      refine L (D_call (R_callF Try.call40 rfl rfl) (c40 (cutV v 1 (0) (23)) ((((b).drop (0)).take (23 - 0))) _ ((h.ext hE).cut (by (try simp only [List.length_take, List.length_drop, List.length_append, List.length_cons, List.length_nil, List.length_replicate, List.length_set, Nm.b_len, be2_len]); omega) (by (try simp only [List.length_take, List.length_drop, List.length_append, List.length_cons, List.length_nil, List.length_replicate, List.length_set, Nm.b_len, be2_len]); omega))) (fun w4_2 e4_2 => ?_))
      replace hE := hE.trans e4_2
      replace hB1_0 := hB1_0.ext e4_2
      refine L (D_v (R_move rfl) ?_)
      refine L (D_v (R_extract rfl rfl) ?_)
      refine L (D_v (R_extract rfl rfl) ?_)
      refine L (D_alloc (c := (Vt.zero).l) Try.zeroValue26 rfl (fun aB4_6 w4_6 e4_6 gB4_6 hB4_6 => ?_))
      have lB4_6 := Nat.le_trans hE.size gB4_6
      have nB1_0B4_6 := hB1_0.ne gB4_6
      replace hE := hE.trans e4_6
      replace hB1_0 := hB1_0.ext e4_6
      have h0 := hB4_6
      refine L (D_storeA Try.sizeOf26 hB4_6 rfl rfl rfl rfl rfl (l' := ((dec ((((b).drop (0)).take (23 - 0)))).1).l) rfl (fun w4_7 k4_7 hB4_6 => ?_))
      replace hE := hE.kp k4_7 lB4_6
      replace hB1_0 := hB1_0.kp k4_7 nB1_0B4_6
      refine L (D_v (R_assign rfl) ?_)
      refine S_nil ?_
      refine T_tn ?_
      refine wp_seq ?_
      refine wp_seq ?_
      refine W_region ?_
      refine L (D_v (R_move rfl) ?_)
      refine L (D_v (R_neqI rfl rfl) ?_)
      refine S_nil ?_
      refine T_tn ?_
      refine W_if rfl (fun c3 => ?_) (fun c3 => ?_)
      ·
        have hb0 : (dec (b.take 23)).2 ≠ 0 := by rw [take0] at c3; simpa using c3
        refine wp_seq ?_
        refine W_region ?_
        refine L (D_v (R_buildS (c := Sg.zero.l) Try.runUnderlying53 places53 Try.zeroValue53 rfl rfl) ?_)
        refine L (D_v (R_move rfl) ?_)
        have h0 := hB1_0
        refine L (D_storeA Try.sizeOf53 hB1_0 rfl rfl rfl rfl rfl (l' := (Sg.zero).l) rfl (fun w6_2 k6_2 hB1_0 => ?_))
        replace hE := hE.kp k6_2 lB1_0
        refine L (D_v (R_assign rfl) ?_)
        refine S_nil ?_
        refine T_tn ?_
        refine wp_ret ?_
        refine T_tr ?_
        refine retct (c := (Sg.zero).l) (v2 := i64 (dec ((((b).drop (0)).take (23 - 0)))).2) rfl rfl rfl Try.isAgg53 Try.sizeOf53 hB1_0 rfl rfl ⟨_, rfl, hE, ?_⟩
        rw [decS_bad hl hb0]
        exact ⟨Sg.zero, by rw [← take0 b 23]; rfl, rfl, Sg.okz 0 _⟩
      ·
        have hb0 : (dec (b.take 23)).2 = 0 := by rw [take0] at c3; simpa using c3
        refine wp_skip ?_
        refine T_tn ?_
        refine wp_seq ?_
        refine W_held (fun W => Ext w W ∧ Blk W aB4_6 ((dec ((((b).drop (0)).take (23 - 0)))).1).l 26 ∧ True) mixed (fun w6_99 e6_99 => ?_)
        replace hE := hE.trans e6_99
        replace hB1_0 := hB1_0.ext e6_99
        replace hB4_6 := hB4_6.ext e6_99
        refine H_take (i := 0) rfl (by kernel_rfl) (by kernel_rfl) (by kernel_rfl) rfl (pq_then pq_body) ⟨hE, hB4_6, trivial⟩ rfl (fun w hw => R_loadA (c := ((dec ((((b).drop (0)).take (23 - 0)))).1).l) Try.isAgg26 Try.sizeOf26 hw.2.1 rfl rfl rfl) ?_
        refine H_take (i := 1) rfl (by kernel_rfl) (by kernel_rfl) (by kernel_rfl) rfl (pq_then pq_body) ⟨hE, hB4_6, trivial⟩ rfl (fun w hw => R_move rfl) ?_
        refine H_take (i := 2) rfl (by kernel_rfl) (by kernel_rfl) (by kernel_rfl) rfl (pq_then pq_body) ⟨hE, hB4_6, trivial⟩ rfl (fun w hw => R_sliceLo (i := 23) Try.underlying31 Try.sizeOf5 rfl rfl (h.ext hw.1) (by (try simp only [List.length_take, List.length_drop, List.length_append, List.length_cons, List.length_nil, List.length_replicate, List.length_set, Nm.b_len, be2_len]); omega)) ?_
        refine H_op (i := 3) (by kernel_rfl) rfl rfl (D_callE (R_callF Try.call86 rfl rfl) (c86_0 (cutV v 1 (23) ((b).length)) ((((b).drop (23)).take ((b).length - 23))) _ _ ((h.ext hE).cut (by (try simp only [List.length_take, List.length_drop, List.length_append, List.length_cons, List.length_nil, List.length_replicate, List.length_set, Nm.b_len, be2_len]); omega) (by (try simp only [List.length_take, List.length_drop, List.length_append, List.length_cons, List.length_nil, List.length_replicate, List.length_set, Nm.b_len, be2_len]); omega)) (by (try simp only [List.length_take, List.length_drop, List.length_append, List.length_cons, List.length_nil, List.length_replicate, List.length_set, Nm.b_len, be2_len]); omega)) (fun v6_3 w6_3 e6_3 p6_3 => ?_))
        have o6_3 := p6_3
        replace o6_3 := o6_3.lo hE.size
        replace hE := hE.trans e6_3
        replace hB1_0 := hB1_0.ext e6_3
        replace hB4_6 := hB4_6.ext e6_3
        refine ⟨⟨hE, hB4_6, trivial⟩, ?_⟩
        have k6_4 : Sg.okf w.heap.size w6_3 (mkSg ((dec ((((b).drop (0)).take (23 - 0)))).1) v6_3 (((b).drop (23)).take ((b).length - 23))) := mkSg_ok _ (Bf.own o6_3)
        refine H_op (i := 4) (by kernel_rfl) rfl rfl (D_v (R_buildS (vs := [(0, .agg ((dec ((((b).drop (0)).take (23 - 0)))).1).l.toArray), (1, v6_3)]) (c := (mkSg ((dec ((((b).drop (0)).take (23 - 0)))).1) v6_3 (((b).drop (23)).take ((b).length - 23))).l) Try.runUnderlying53 places53 Try.zeroValue53 (mapp2 rfl rfl) (fill53 _ o6_3.bs)) ⟨⟨hE, hB4_6, trivial⟩, ?_⟩)
        have xo6_3 := own_neB o6_3 hB1_0 rfl
        have h0 := hB1_0
        refine H_op (i := 5) (by kernel_rfl) rfl rfl (D_storeA Try.sizeOf53 hB1_0 rfl rfl rfl rfl rfl (l' := ((mkSg ((dec ((((b).drop (0)).take (23 - 0)))).1) v6_3 (((b).drop (23)).take ((b).length - 23)))).l) rfl (fun w6_5 k6_5 hB1_0 => ?_))
        have f6_5 := Fb.kp k6_5 (Nat.le_trans (Nat.le_refl _) lB1_0) (Blk.notB h0 rfl)
        replace hE := hE.kp k6_5 lB1_0
        replace hB4_6 := hB4_6.kp k6_5 nB1_0B4_6.symm
        replace o6_3 := o6_3.kp k6_5 xo6_3
        replace k6_4 := k6_4.fb f6_5
        refine ⟨⟨hE, hB4_6, trivial⟩, ?_⟩
        refine H_take (i := 6) rfl (by kernel_rfl) (by kernel_rfl) (by kernel_rfl) rfl (pq_then pq_body) ⟨hE, hB4_6, trivial⟩ rfl (fun w hw => R_assign rfl) ?_
        refine H_done (by kernel_rfl) ?_
        refine T_tn ?_
        refine wp_ret ?_
        refine retct (c := ((mkSg ((dec ((((b).drop (0)).take (23 - 0)))).1) v6_3 (((b).drop (23)).take ((b).length - 23)))).l) (v2 := i64 (0)) rfl rfl rfl Try.isAgg53 Try.sizeOf53 hB1_0 rfl rfl ⟨_, rfl, hE, ?_⟩
        rw [decS_ok hl hb0, ← take0 b 23, ← dropn b 23]
        exact ⟨(mkSg ((dec ((((b).drop (0)).take (23 - 0)))).1) v6_3 (((b).drop (23)).take ((b).length - 23))), rfl, rfl, mkSg_ok _ (Bf.own o6_3)⟩

-- forkledger/forkledgerref6.DecodeSigned
set_option maxRecDepth 4000 in
set_option maxHeartbeats 2000000 in
theorem c69 (v : Value) (b : List UInt8) (w : World) (h : Bs w v b) : Calls Try.prog 69 [v].toArray w (RetE w fun r w' => ∃ x : Sg, r = .tuple #[x.v, i64 (decS b).2] ∧ x.p = (decS b).1 ∧ x.okf 0 w') := by
  refine enter Try.func69 Try.ntmps69 rfl rfl ?_
  have hE := Ext.refl w
  refine wp_seq ?_
  refine W_region ?_
  refine L (D_alloc (c := (Sg.zero).l) Try.zeroValue53 rfl (fun aB1_0 w1_0 e1_0 gB1_0 hB1_0 => ?_))
  have lB1_0 := Nat.le_trans hE.size gB1_0
  replace hE := hE.trans e1_0
  refine L (D_v (R_assign rfl) ?_)
  refine S_nil ?_
  refine T_tn ?_
  refine wp_seq ?_
  refine wp_seq ?_
  refine W_region ?_
  refine L (D_v (R_move rfl) ?_)
  refine L (D_v (R_len Try.underlying31 rfl (h.ext hE)) ?_)
  refine L (D_v (R_lssI rfl rfl) ?_)
  refine S_nil ?_
  refine T_tn ?_
  refine W_if rfl (fun c1 => ?_) (fun c1 => ?_)
  ·
    have hl : b.length < 393 := by simp at c1; omega
    refine wp_seq ?_
    refine W_region ?_
    refine L (D_v (R_buildS (c := Sg.zero.l) Try.runUnderlying53 places53 Try.zeroValue53 rfl rfl) ?_)
    have h0 := hB1_0
    refine L (D_storeA Try.sizeOf53 hB1_0 rfl rfl rfl rfl rfl (l' := (Sg.zero).l) rfl (fun w3_1 k3_1 hB1_0 => ?_))
    replace hE := hE.kp k3_1 lB1_0
    refine L (D_v (R_assign rfl) ?_)
    refine S_nil ?_
    refine T_tn ?_
    refine wp_ret ?_
    refine T_tr ?_
    refine retct (c := (Sg.zero).l) (v2 := i64 (2)) rfl rfl rfl Try.isAgg53 Try.sizeOf53 hB1_0 rfl rfl ⟨_, rfl, hE, ?_⟩
    rw [decS_short hl]
    exact ⟨Sg.zero, rfl, rfl, Sg.okz 0 _⟩
  ·
    have hl1 : ¬ b.length < 393 := by simp at c1; omega
    refine wp_skip ?_
    refine T_tn ?_
    refine wp_seq ?_
    refine wp_seq ?_
    refine W_region ?_
    refine L (D_v (R_move rfl) ?_)
    refine L (D_v (R_len Try.underlying31 rfl (h.ext hE)) ?_)
    refine L (D_v (R_gtrI rfl rfl) ?_)
    refine S_nil ?_
    refine T_tn ?_
    refine W_if rfl (fun c2 => ?_) (fun c2 => ?_)
    ·
      have hl : 393 < b.length := by simp at c2; omega
      refine wp_seq ?_
      refine W_region ?_
      refine L (D_v (R_buildS (c := Sg.zero.l) Try.runUnderlying53 places53 Try.zeroValue53 rfl rfl) ?_)
      have h0 := hB1_0
      refine L (D_storeA Try.sizeOf53 hB1_0 rfl rfl rfl rfl rfl (l' := (Sg.zero).l) rfl (fun w4_1 k4_1 hB1_0 => ?_))
      replace hE := hE.kp k4_1 lB1_0
      refine L (D_v (R_assign rfl) ?_)
      refine S_nil ?_
      refine T_tn ?_
      refine wp_ret ?_
      refine T_tr ?_
      refine retct (c := (Sg.zero).l) (v2 := i64 (3)) rfl rfl rfl Try.isAgg53 Try.sizeOf53 hB1_0 rfl rfl ⟨_, rfl, hE, ?_⟩
      rw [decS_long hl]
      exact ⟨Sg.zero, rfl, rfl, Sg.okz 0 _⟩
    ·
      have hl : b.length = 393 := by simp at c2; omega
      refine wp_skip ?_
      refine T_tn ?_
      refine wp_seq ?_
      refine W_region ?_
      refine L (D_v (R_move rfl) ?_)
      refine L (D_v (R_sliceHi (j := 23) Try.underlying31 Try.sizeOf5 rfl rfl (h.ext hE) (by (try simp only [List.length_take, List.length_drop, List.length_append, List.length_cons, List.length_nil, List.length_replicate, List.length_set, Nm.b_len, be2_len]); omega)) ?_)
      refine L (D_call (R_callF Try.call41 rfl rfl) (c41 (cutV v 1 (0) (23)) ((((b).drop (0)).take (23 - 0))) _ ((h.ext hE).cut (by (try simp only [List.length_take, List.length_drop, List.length_append, List.length_cons, List.length_nil, List.length_replicate, List.length_set, Nm.b_len, be2_len]); omega) (by (try simp only [List.length_take, List.length_drop, List.length_append, List.length_cons, List.length_nil, List.length_replicate, List.length_set, Nm.b_len, be2_len]); omega))) (fun w4_2 e4_2 => ?_))
      replace hE := hE.trans e4_2
      replace hB1_0 := hB1_0.ext e4_2
      refine L (D_v (R_move rfl) ?_)
      refine L (D_v (R_extract rfl rfl) ?_)
      refine L (D_v (R_extract rfl rfl) ?_)
      refine L (D_alloc (c := (Vt.zero).l) Try.zeroValue26 rfl (fun aB4_6 w4_6 e4_6 gB4_6 hB4_6 => ?_))
      have lB4_6 := Nat.le_trans hE.size gB4_6
      have nB1_0B4_6 := hB1_0.ne gB4_6
      replace hE := hE.trans e4_6
      replace hB1_0 := hB1_0.ext e4_6
      have h0 := hB4_6
      refine L (D_storeA Try.sizeOf26 hB4_6 rfl rfl rfl rfl rfl (l' := ((dec ((((b).drop (0)).take (23 - 0)))).1).l) rfl (fun w4_7 k4_7 hB4_6 => ?_))
      replace hE := hE.kp k4_7 lB4_6
      replace hB1_0 := hB1_0.kp k4_7 nB1_0B4_6
      refine L (D_v (R_assign rfl) ?_)
      refine S_nil ?_
      refine T_tn ?_
      refine wp_seq ?_
      refine wp_seq ?_
      refine W_region ?_
      refine L (D_v (R_move rfl) ?_)
      refine L (D_v (R_neqI rfl rfl) ?_)
      refine S_nil ?_
      refine T_tn ?_
      refine W_if rfl (fun c3 => ?_) (fun c3 => ?_)
      ·
        have hb0 : (dec (b.take 23)).2 ≠ 0 := by rw [take0] at c3; simpa using c3
        refine wp_seq ?_
        refine W_region ?_
        refine L (D_v (R_buildS (c := Sg.zero.l) Try.runUnderlying53 places53 Try.zeroValue53 rfl rfl) ?_)
        refine L (D_v (R_move rfl) ?_)
        have h0 := hB1_0
        refine L (D_storeA Try.sizeOf53 hB1_0 rfl rfl rfl rfl rfl (l' := (Sg.zero).l) rfl (fun w6_2 k6_2 hB1_0 => ?_))
        replace hE := hE.kp k6_2 lB1_0
        refine L (D_v (R_assign rfl) ?_)
        refine S_nil ?_
        refine T_tn ?_
        refine wp_ret ?_
        refine T_tr ?_
        refine retct (c := (Sg.zero).l) (v2 := i64 (dec ((((b).drop (0)).take (23 - 0)))).2) rfl rfl rfl Try.isAgg53 Try.sizeOf53 hB1_0 rfl rfl ⟨_, rfl, hE, ?_⟩
        rw [decS_bad hl hb0]
        exact ⟨Sg.zero, by rw [← take0 b 23]; rfl, rfl, Sg.okz 0 _⟩
      ·
        have hb0 : (dec (b.take 23)).2 = 0 := by rw [take0] at c3; simpa using c3
        refine wp_skip ?_
        refine T_tn ?_
        refine wp_seq ?_
        refine W_held (fun W => Ext w W ∧ Blk W aB4_6 ((dec ((((b).drop (0)).take (23 - 0)))).1).l 26 ∧ True) mixed (fun w6_99 e6_99 => ?_)
        replace hE := hE.trans e6_99
        replace hB1_0 := hB1_0.ext e6_99
        replace hB4_6 := hB4_6.ext e6_99
        refine H_take (i := 0) rfl (by kernel_rfl) (by kernel_rfl) (by kernel_rfl) rfl (pq_then pq_body) ⟨hE, hB4_6, trivial⟩ rfl (fun w hw => R_loadA (c := ((dec ((((b).drop (0)).take (23 - 0)))).1).l) Try.isAgg26 Try.sizeOf26 hw.2.1 rfl rfl rfl) ?_
        refine H_take (i := 1) rfl (by kernel_rfl) (by kernel_rfl) (by kernel_rfl) rfl (pq_then pq_body) ⟨hE, hB4_6, trivial⟩ rfl (fun w hw => R_move rfl) ?_
        refine H_take (i := 2) rfl (by kernel_rfl) (by kernel_rfl) (by kernel_rfl) rfl (pq_then pq_body) ⟨hE, hB4_6, trivial⟩ rfl (fun w hw => R_sliceLo (i := 23) Try.underlying31 Try.sizeOf5 rfl rfl (h.ext hw.1) (by (try simp only [List.length_take, List.length_drop, List.length_append, List.length_cons, List.length_nil, List.length_replicate, List.length_set, Nm.b_len, be2_len]); omega)) ?_
        have o6_3n := OwnB.nil w6_99 w.heap.size
        refine H_op (i := 3) (by kernel_rfl) rfl rfl (D_appendB elt5 Try.underlying31 rfl rfl o6_3n ((h.ext hE).cut (by (try simp only [List.length_take, List.length_drop, List.length_append, List.length_cons, List.length_nil, List.length_replicate, List.length_set, Nm.b_len, be2_len]); omega) (by (try simp only [List.length_take, List.length_drop, List.length_append, List.length_cons, List.length_nil, List.length_replicate, List.length_set, Nm.b_len, be2_len]); omega)) (by (try simp only [List.length_take, List.length_drop, List.length_append, List.length_cons, List.length_nil, List.length_replicate, List.length_set, Nm.b_len, be2_len]); omega) hE.size (fun v6_3 w6_3 o6_3 g6_3 => ?_))
        replace hE := hE.grown g6_3 (fun k hk => own_ge o6_3n hk)
        replace hB1_0 := hB1_0.grown g6_3 (own_neB o6_3n hB1_0 rfl)
        replace hB4_6 := hB4_6.grown g6_3 (own_neB o6_3n hB4_6 rfl)
        refine ⟨⟨hE, hB4_6, trivial⟩, ?_⟩
        have k6_4 : Sg.okf w.heap.size w6_3 (mkSg ((dec ((((b).drop (0)).take (23 - 0)))).1) v6_3 ([] ++ (((b).drop (23)).take ((b).length - 23)))) := mkSg_ok _ (Bf.own o6_3)
        refine H_op (i := 4) (by kernel_rfl) rfl rfl (D_v (R_buildS (vs := [(0, .agg ((dec ((((b).drop (0)).take (23 - 0)))).1).l.toArray), (1, v6_3)]) (c := (mkSg ((dec ((((b).drop (0)).take (23 - 0)))).1) v6_3 ([] ++ (((b).drop (23)).take ((b).length - 23)))).l) Try.runUnderlying53 places53 Try.zeroValue53 (mapp2 rfl rfl) (fill53 _ o6_3.bs)) ⟨⟨hE, hB4_6, trivial⟩, ?_⟩)
        have xo6_3 := own_neB o6_3 hB1_0 rfl
        have h0 := hB1_0
        refine H_op (i := 5) (by kernel_rfl) rfl rfl (D_storeA Try.sizeOf53 hB1_0 rfl rfl rfl rfl rfl (l' := ((mkSg ((dec ((((b).drop (0)).take (23 - 0)))).1) v6_3 ([] ++ (((b).drop (23)).take ((b).length - 23))))).l) rfl (fun w6_5 k6_5 hB1_0 => ?_))
        have f6_5 := Fb.kp k6_5 (Nat.le_trans (Nat.le_refl _) lB1_0) (Blk.notB h0 rfl)
        replace hE := hE.kp k6_5 lB1_0
        replace hB4_6 := hB4_6.kp k6_5 nB1_0B4_6.symm
        replace o6_3 := o6_3.kp k6_5 xo6_3
        replace k6_4 := k6_4.fb f6_5
        refine ⟨⟨hE, hB4_6, trivial⟩, ?_⟩
        refine H_take (i := 6) rfl (by kernel_rfl) (by kernel_rfl) (by kernel_rfl) rfl (pq_then pq_body) ⟨hE, hB4_6, trivial⟩ rfl (fun w hw => R_assign rfl) ?_
        refine H_done (by kernel_rfl) ?_
        refine T_tn ?_
        refine wp_ret ?_
        refine retct (c := ((mkSg ((dec ((((b).drop (0)).take (23 - 0)))).1) v6_3 ([] ++ (((b).drop (23)).take ((b).length - 23))))).l) (v2 := i64 (0)) rfl rfl rfl Try.isAgg53 Try.sizeOf53 hB1_0 rfl rfl ⟨_, rfl, hE, ?_⟩
        rw [decS_ok hl hb0, ← take0 b 23, ← dropn b 23]
        exact ⟨(mkSg ((dec ((((b).drop (0)).take (23 - 0)))).1) v6_3 ([] ++ (((b).drop (23)).take ((b).length - 23)))), rfl, rfl, mkSg_ok _ (Bf.own o6_3)⟩

-- forkledger/evidence.Decode
set_option maxRecDepth 4000 in
set_option maxHeartbeats 2000000 in
theorem c81 (v : Value) (b : List UInt8) (w : World) (h : Bs w v b) : Calls Try.prog 81 [v].toArray w (RetE w fun r w' => ∃ x : Ev, r = .tuple #[x.v, i64 (decE b).2] ∧ x.p = (decE b).1 ∧ x.okf 0 w') := by
  refine enter Try.func81 Try.ntmps81 rfl rfl ?_
  have hE := Ext.refl w
  refine wp_seq ?_
  refine W_region ?_
  refine L (D_alloc (c := (Ev.zero).l) Try.zeroValue55 rfl (fun aB1_0 w1_0 e1_0 gB1_0 hB1_0 => ?_))
  have lB1_0 := Nat.le_trans hE.size gB1_0
  replace hE := hE.trans e1_0
  refine L (D_v (R_assign rfl) ?_)
  refine S_nil ?_
  refine T_tn ?_
  refine wp_seq ?_
  refine wp_block ?_
  refine wp_seq ?_
  refine W_region ?_
  refine L (D_v (R_move rfl) ?_)
  refine L (D_v (R_len Try.underlying31 rfl (h.ext hE)) ?_)
  refine L (D_v (R_lssI rfl rfl) ?_)
  refine L (D_v (R_assign rfl) ?_)
  refine S_nil ?_
  refine T_tn ?_
  refine W_if rfl (fun c1 => ?_) (fun c1 => ?_)
  ·
    have hl : b.length < 786 := by simp at c1; omega
    refine wp_seq ?_
    refine W_region ?_
    refine L (D_v (R_buildS (c := Ev.zero.l) Try.runUnderlying55 places55 Try.zeroValue55 rfl rfl) ?_)
    have h0 := hB1_0
    refine L (D_storeA Try.sizeOf55 hB1_0 rfl rfl rfl rfl rfl (l' := (Ev.zero).l) rfl (fun w3_1 k3_1 hB1_0 => ?_))
    replace hE := hE.kp k3_1 lB1_0
    refine L (D_v (R_assign rfl) ?_)
    refine S_nil ?_
    refine T_tn ?_
    refine wp_ret ?_
    refine T_br ?_
    refine T_tr ?_
    refine retct (c := (Ev.zero).l) (v2 := i64 (2)) rfl rfl rfl Try.isAgg55 Try.sizeOf55 hB1_0 rfl rfl ⟨_, rfl, hE, ?_⟩
    rw [decE_short hl]
    exact ⟨Ev.zero, by first | rfl | (simp only [take0, dropn]; rfl), rfl, Ev.okz 0 _⟩
  ·
    have hl1 : ¬ b.length < 786 := by simp at c1; omega
    refine wp_seq ?_
    refine W_region ?_
    refine L (D_v (R_move rfl) ?_)
    refine L (D_v (R_len Try.underlying31 rfl (h.ext hE)) ?_)
    refine L (D_v (R_gtrI rfl rfl) ?_)
    refine L (D_v (R_assign rfl) ?_)
    refine S_nil ?_
    refine T_tn ?_
    refine W_if rfl (fun c2 => ?_) (fun c2 => ?_)
    ·
      have hl : 786 < b.length := by simp at c2; omega
      refine wp_seq ?_
      refine W_region ?_
      refine L (D_v (R_buildS (c := Ev.zero.l) Try.runUnderlying55 places55 Try.zeroValue55 rfl rfl) ?_)
      have h0 := hB1_0
      refine L (D_storeA Try.sizeOf55 hB1_0 rfl rfl rfl rfl rfl (l' := (Ev.zero).l) rfl (fun w4_1 k4_1 hB1_0 => ?_))
      replace hE := hE.kp k4_1 lB1_0
      refine L (D_v (R_assign rfl) ?_)
      refine S_nil ?_
      refine T_tn ?_
      refine wp_ret ?_
      refine T_br ?_
      refine T_tr ?_
      refine retct (c := (Ev.zero).l) (v2 := i64 (3)) rfl rfl rfl Try.isAgg55 Try.sizeOf55 hB1_0 rfl rfl ⟨_, rfl, hE, ?_⟩
      rw [decE_long hl]
      exact ⟨Ev.zero, by first | rfl | (simp only [take0, dropn]; rfl), rfl, Ev.okz 0 _⟩
    ·
      have hl : b.length = 786 := by simp at c2; omega
      refine wp_skip ?_
      refine T_bn ?_
      refine T_tn ?_
      refine wp_seq ?_
      refine W_region ?_
      refine L (D_v (R_move rfl) ?_)
      refine L (D_v (R_sliceHi (j := 393) Try.underlying31 Try.sizeOf5 rfl rfl (h.ext hE) (by (try simp only [List.length_take, List.length_drop, List.length_append, List.length_cons, List.length_nil, List.length_replicate, List.length_set, Nm.b_len, be2_len]); omega)) ?_)
      refine L (D_callE (R_callF Try.call68 rfl rfl) (c68 (cutV v 1 (0) (393)) ((((b).drop (0)).take (393 - 0))) _ ((h.ext hE).cut (by (try simp only [List.length_take, List.length_drop, List.length_append, List.length_cons, List.length_nil, List.length_replicate, List.length_set, Nm.b_len, be2_len]); omega) (by (try simp only [List.length_take, List.length_drop, List.length_append, List.length_cons, List.length_nil, List.length_replicate, List.length_set, Nm.b_len, be2_len]); omega))) (fun v4_2 w4_2 e4_2 p4_2 => ?_))
      obtain ⟨x4_2, rfl, p4_2a, k4_2⟩ := p4_2
      replace hE := hE.trans e4_2
      replace hB1_0 := hB1_0.ext e4_2
      refine L (D_v (R_move rfl) ?_)
      refine L (D_v (R_extract rfl rfl) ?_)
      refine L (D_v (R_extract rfl rfl) ?_)
      refine L (D_alloc (c := (Sg.zero).l) Try.zeroValue53 rfl (fun aB4_6 w4_6 e4_6 gB4_6 hB4_6 => ?_))
      have lB4_6 := Nat.le_trans hE.size gB4_6
      have nB1_0B4_6 := hB1_0.ne gB4_6
      replace hE := hE.trans e4_6
      replace hB1_0 := hB1_0.ext e4_6
      replace k4_2 := k4_2.fb (Fb.ext e4_6)
      have h0 := hB4_6
      refine L (D_storeA Try.sizeOf53 hB4_6 rfl rfl rfl rfl rfl (l' := (x4_2).l) rfl (fun w4_7 k4_7 hB4_6 => ?_))
      have f4_7 := Fb.kp k4_7 (Nat.le_trans (Nat.le_refl _) lB4_6) (Blk.notB h0 rfl)
      replace hE := hE.kp k4_7 lB4_6
      replace hB1_0 := hB1_0.kp k4_7 nB1_0B4_6
      replace k4_2 := k4_2.fb (Fb.kp k4_7 (Nat.zero_le _) (Blk.notB h0 rfl))
      refine L (D_v (R_assign rfl) ?_)
      refine S_nil ?_
      refine T_tn ?_
      refine wp_seq ?_
      refine wp_seq ?_
      refine W_region ?_
      refine L (D_v (R_move rfl) ?_)
      refine L (D_v (R_neqI rfl rfl) ?_)
      refine S_nil ?_
      refine T_tn ?_
      refine W_if rfl (fun c3 => ?_) (fun c3 => ?_)
      ·
        have hb0 : (decS (b.take 393)).2 ≠ 0 := by rw [take0] at c3; simpa using c3
        refine wp_seq ?_
        refine W_region ?_
        refine L (D_v (R_buildS (c := Ev.zero.l) Try.runUnderlying55 places55 Try.zeroValue55 rfl rfl) ?_)
        refine L (D_v (R_move rfl) ?_)
        have h0 := hB1_0
        refine L (D_storeA Try.sizeOf55 hB1_0 rfl rfl rfl rfl rfl (l' := (Ev.zero).l) rfl (fun w6_2 k6_2 hB1_0 => ?_))
        have f6_2 := Fb.kp k6_2 (Nat.le_trans (Nat.le_refl _) lB1_0) (Blk.notB h0 rfl)
        replace hE := hE.kp k6_2 lB1_0
        replace k4_2 := k4_2.fb (Fb.kp k6_2 (Nat.zero_le _) (Blk.notB h0 rfl))
        refine L (D_v (R_assign rfl) ?_)
        refine S_nil ?_
        refine T_tn ?_
        refine wp_ret ?_
        refine T_tr ?_
        refine retct (c := (Ev.zero).l) (v2 := i64 (decS ((((b).drop (0)).take (393 - 0)))).2) rfl rfl rfl Try.isAgg55 Try.sizeOf55 hB1_0 rfl rfl ⟨_, rfl, hE, ?_⟩
        rw [decE_a hl hb0]
        exact ⟨Ev.zero, by first | rfl | (simp only [take0, dropn]; rfl), rfl, Ev.okz 0 _⟩
      ·
        have hb0 : (decS (b.take 393)).2 = 0 := by rw [take0] at c3; simpa using c3
        refine wp_skip ?_
        refine T_tn ?_
        refine wp_seq ?_
        refine W_region ?_
        refine L (D_v (R_move rfl) ?_)
        refine L (D_v (R_sliceLo (i := 393) Try.underlying31 Try.sizeOf5 rfl rfl (h.ext hE) (by (try simp only [List.length_take, List.length_drop, List.length_append, List.length_cons, List.length_nil, List.length_replicate, List.length_set, Nm.b_len, be2_len]); omega)) ?_)
        refine L (D_callE (R_callF Try.call68 rfl rfl) (c68 (cutV v 1 (393) ((b).length)) ((((b).drop (393)).take ((b).length - 393))) _ ((h.ext hE).cut (by (try simp only [List.length_take, List.length_drop, List.length_append, List.length_cons, List.length_nil, List.length_replicate, List.length_set, Nm.b_len, be2_len]); omega) (by (try simp only [List.length_take, List.length_drop, List.length_append, List.length_cons, List.length_nil, List.length_replicate, List.length_set, Nm.b_len, be2_len]); omega))) (fun v6_2 w6_2 e6_2 p6_2 => ?_))
        obtain ⟨x6_2, rfl, p6_2a, k6_2⟩ := p6_2
        replace hE := hE.trans e6_2
        replace hB1_0 := hB1_0.ext e6_2
        replace hB4_6 := hB4_6.ext e6_2
        replace k4_2 := k4_2.fb (Fb.ext e6_2)
        refine L (D_v (R_move rfl) ?_)
        refine L (D_v (R_extract rfl rfl) ?_)
        refine L (D_v (R_extract rfl rfl) ?_)
        refine L (D_alloc (c := (Sg.zero).l) Try.zeroValue53 rfl (fun aB6_6 w6_6 e6_6 gB6_6 hB6_6 => ?_))
        have lB6_6 := Nat.le_trans hE.size gB6_6
        have nB1_0B6_6 := hB1_0.ne gB6_6
        have nB4_6B6_6 := hB4_6.ne gB6_6
        replace hE := hE.trans e6_6
        replace hB1_0 := hB1_0.ext e6_6
        replace hB4_6 := hB4_6.ext e6_6
        replace k4_2 := k4_2.fb (Fb.ext e6_6)
        replace k6_2 := k6_2.fb (Fb.ext e6_6)
        have h0 := hB6_6
        refine L (D_storeA Try.sizeOf53 hB6_6 rfl rfl rfl rfl rfl (l' := (x6_2).l) rfl (fun w6_7 k6_7 hB6_6 => ?_))
        have f6_7 := Fb.kp k6_7 (Nat.le_trans (Nat.le_refl _) lB6_6) (Blk.notB h0 rfl)
        replace hE := hE.kp k6_7 lB6_6
        replace hB1_0 := hB1_0.kp k6_7 nB1_0B6_6
        replace hB4_6 := hB4_6.kp k6_7 nB4_6B6_6
        replace k4_2 := k4_2.fb (Fb.kp k6_7 (Nat.zero_le _) (Blk.notB h0 rfl))
        replace k6_2 := k6_2.fb (Fb.kp k6_7 (Nat.zero_le _) (Blk.notB h0 rfl))
        refine L (D_v (R_assign rfl) ?_)
        refine S_nil ?_
        refine T_tn ?_
        refine wp_seq ?_
        refine wp_seq ?_
        refine W_region ?_
        refine L (D_v (R_move rfl) ?_)
        refine L (D_v (R_neqI rfl rfl) ?_)
        refine S_nil ?_
        refine T_tn ?_
        refine W_if rfl (fun c4 => ?_) (fun c4 => ?_)
        ·
          have hb1 : (decS (b.drop 393)).2 ≠ 0 := by rw [dropn] at c4; simpa using c4
          refine wp_seq ?_
          refine W_region ?_
          refine L (D_v (R_buildS (c := Ev.zero.l) Try.runUnderlying55 places55 Try.zeroValue55 rfl rfl) ?_)
          refine L (D_v (R_move rfl) ?_)
          have h0 := hB1_0
          refine L (D_storeA Try.sizeOf55 hB1_0 rfl rfl rfl rfl rfl (l' := (Ev.zero).l) rfl (fun w8_2 k8_2 hB1_0 => ?_))
          have f8_2 := Fb.kp k8_2 (Nat.le_trans (Nat.le_refl _) lB1_0) (Blk.notB h0 rfl)
          replace hE := hE.kp k8_2 lB1_0
          replace k4_2 := k4_2.fb (Fb.kp k8_2 (Nat.zero_le _) (Blk.notB h0 rfl))
          replace k6_2 := k6_2.fb (Fb.kp k8_2 (Nat.zero_le _) (Blk.notB h0 rfl))
          refine L (D_v (R_assign rfl) ?_)
          refine S_nil ?_
          refine T_tn ?_
          refine wp_ret ?_
          refine T_tr ?_
          refine retct (c := (Ev.zero).l) (v2 := i64 (decS ((((b).drop (393)).take ((b).length - 393)))).2) rfl rfl rfl Try.isAgg55 Try.sizeOf55 hB1_0 rfl rfl ⟨_, rfl, hE, ?_⟩
          rw [decE_b hl hb0 hb1]
          exact ⟨Ev.zero, by first | rfl | (simp only [take0, dropn]; rfl), rfl, Ev.okz 0 _⟩
        ·
          have hb1 : (decS (b.drop 393)).2 = 0 := by rw [dropn] at c4; simpa using c4
          refine wp_skip ?_
          refine T_tn ?_
          refine wp_seq ?_
          refine W_region ?_
          refine L (D_v (R_loadA (c := (x4_2).l) Try.isAgg53 Try.sizeOf53 hB4_6 rfl rfl rfl) ?_)
          refine L (D_v (R_loadA (c := (x6_2).l) Try.isAgg53 Try.sizeOf53 hB6_6 rfl rfl rfl) ?_)
          have k8_2 : Ev.okf w.heap.size w6_7 (⟨x4_2, x6_2⟩ : Ev) := ⟨(k4_2.up (Nat.zero_le _)), (k6_2.up (Nat.zero_le _))⟩
          refine L (D_v (R_buildS (vs := [(0, .agg (x4_2).l.toArray), (1, .agg (x6_2).l.toArray)]) (c := (⟨x4_2, x6_2⟩ : Ev).l) Try.runUnderlying55 places55 Try.zeroValue55 (mapp2 rfl rfl) (fill55 _ _)) ?_)
          have h0 := hB1_0
          refine L (D_storeA Try.sizeOf55 hB1_0 rfl rfl rfl rfl rfl (l' := ((⟨x4_2, x6_2⟩ : Ev)).l) rfl (fun w8_3 k8_3 hB1_0 => ?_))
          have f8_3 := Fb.kp k8_3 (Nat.le_trans (Nat.le_refl _) lB1_0) (Blk.notB h0 rfl)
          replace hE := hE.kp k8_3 lB1_0
          replace hB4_6 := hB4_6.kp k8_3 nB1_0B4_6.symm
          replace hB6_6 := hB6_6.kp k8_3 nB1_0B6_6.symm
          replace k4_2 := k4_2.fb (Fb.kp k8_3 (Nat.zero_le _) (Blk.notB h0 rfl))
          replace k6_2 := k6_2.fb (Fb.kp k8_3 (Nat.zero_le _) (Blk.notB h0 rfl))
          replace k8_2 := k8_2.fb f8_3
          refine L (D_v (R_assign rfl) ?_)
          refine S_nil ?_
          refine T_tn ?_
          refine wp_ret ?_
          refine retct (c := ((⟨x4_2, x6_2⟩ : Ev)).l) (v2 := i64 (0)) rfl rfl rfl Try.isAgg55 Try.sizeOf55 hB1_0 rfl rfl ⟨_, rfl, hE, ?_⟩
          rw [decE_ok hl hb0 hb1]
          simp only [take0, dropn] at p4_2a p6_2a
          exact ⟨(⟨x4_2, x6_2⟩ : Ev), rfl, Prod.ext p4_2a p6_2a, ⟨k4_2, k6_2⟩⟩

-- forkledger/forkledgerref6.DecodeEvidence
set_option maxRecDepth 4000 in
set_option maxHeartbeats 2000000 in
theorem c49 (v : Value) (b : List UInt8) (w : World) (h : Bs w v b) : Calls Try.prog 49 [v].toArray w (RetE w fun r w' => ∃ x : Ev, r = .tuple #[x.v, i64 (decE b).2] ∧ x.p = (decE b).1 ∧ x.okf 0 w') := by
  refine enter Try.func49 Try.ntmps49 rfl rfl ?_
  have hE := Ext.refl w
  refine wp_seq ?_
  refine W_region ?_
  refine L (D_alloc (c := (Ev.zero).l) Try.zeroValue55 rfl (fun aB1_0 w1_0 e1_0 gB1_0 hB1_0 => ?_))
  have lB1_0 := Nat.le_trans hE.size gB1_0
  replace hE := hE.trans e1_0
  refine L (D_v (R_assign rfl) ?_)
  refine S_nil ?_
  refine T_tn ?_
  refine wp_seq ?_
  refine wp_seq ?_
  refine W_region ?_
  refine L (D_v (R_move rfl) ?_)
  refine L (D_v (R_len Try.underlying31 rfl (h.ext hE)) ?_)
  refine L (D_v (R_lssI rfl rfl) ?_)
  refine S_nil ?_
  refine T_tn ?_
  refine W_if rfl (fun c1 => ?_) (fun c1 => ?_)
  ·
    have hl : b.length < 786 := by simp at c1; omega
    refine wp_seq ?_
    refine W_region ?_
    refine L (D_v (R_buildS (c := Ev.zero.l) Try.runUnderlying55 places55 Try.zeroValue55 rfl rfl) ?_)
    have h0 := hB1_0
    refine L (D_storeA Try.sizeOf55 hB1_0 rfl rfl rfl rfl rfl (l' := (Ev.zero).l) rfl (fun w3_1 k3_1 hB1_0 => ?_))
    replace hE := hE.kp k3_1 lB1_0
    refine L (D_v (R_assign rfl) ?_)
    refine S_nil ?_
    refine T_tn ?_
    refine wp_ret ?_
    refine T_tr ?_
    refine retct (c := (Ev.zero).l) (v2 := i64 (2)) rfl rfl rfl Try.isAgg55 Try.sizeOf55 hB1_0 rfl rfl ⟨_, rfl, hE, ?_⟩
    rw [decE_short hl]
    exact ⟨Ev.zero, by first | rfl | (simp only [take0, dropn]; rfl), rfl, Ev.okz 0 _⟩
  ·
    have hl1 : ¬ b.length < 786 := by simp at c1; omega
    refine wp_skip ?_
    refine T_tn ?_
    refine wp_seq ?_
    refine wp_seq ?_
    refine W_region ?_
    refine L (D_v (R_move rfl) ?_)
    refine L (D_v (R_len Try.underlying31 rfl (h.ext hE)) ?_)
    refine L (D_v (R_gtrI rfl rfl) ?_)
    refine S_nil ?_
    refine T_tn ?_
    refine W_if rfl (fun c2 => ?_) (fun c2 => ?_)
    ·
      have hl : 786 < b.length := by simp at c2; omega
      refine wp_seq ?_
      refine W_region ?_
      refine L (D_v (R_buildS (c := Ev.zero.l) Try.runUnderlying55 places55 Try.zeroValue55 rfl rfl) ?_)
      have h0 := hB1_0
      refine L (D_storeA Try.sizeOf55 hB1_0 rfl rfl rfl rfl rfl (l' := (Ev.zero).l) rfl (fun w4_1 k4_1 hB1_0 => ?_))
      replace hE := hE.kp k4_1 lB1_0
      refine L (D_v (R_assign rfl) ?_)
      refine S_nil ?_
      refine T_tn ?_
      refine wp_ret ?_
      refine T_tr ?_
      refine retct (c := (Ev.zero).l) (v2 := i64 (3)) rfl rfl rfl Try.isAgg55 Try.sizeOf55 hB1_0 rfl rfl ⟨_, rfl, hE, ?_⟩
      rw [decE_long hl]
      exact ⟨Ev.zero, by first | rfl | (simp only [take0, dropn]; rfl), rfl, Ev.okz 0 _⟩
    ·
      have hl : b.length = 786 := by simp at c2; omega
      refine wp_skip ?_
      refine T_tn ?_
      refine wp_seq ?_
      refine W_region ?_
      refine L (D_v (R_move rfl) ?_)
      refine L (D_v (R_sliceHi (j := 393) Try.underlying31 Try.sizeOf5 rfl rfl (h.ext hE) (by (try simp only [List.length_take, List.length_drop, List.length_append, List.length_cons, List.length_nil, List.length_replicate, List.length_set, Nm.b_len, be2_len]); omega)) ?_)
      refine L (D_callE (R_callF Try.call69 rfl rfl) (c69 (cutV v 1 (0) (393)) ((((b).drop (0)).take (393 - 0))) _ ((h.ext hE).cut (by (try simp only [List.length_take, List.length_drop, List.length_append, List.length_cons, List.length_nil, List.length_replicate, List.length_set, Nm.b_len, be2_len]); omega) (by (try simp only [List.length_take, List.length_drop, List.length_append, List.length_cons, List.length_nil, List.length_replicate, List.length_set, Nm.b_len, be2_len]); omega))) (fun v4_2 w4_2 e4_2 p4_2 => ?_))
      obtain ⟨x4_2, rfl, p4_2a, k4_2⟩ := p4_2
      replace hE := hE.trans e4_2
      replace hB1_0 := hB1_0.ext e4_2
      refine L (D_v (R_move rfl) ?_)
      refine L (D_v (R_extract rfl rfl) ?_)
      refine L (D_v (R_extract rfl rfl) ?_)
      refine L (D_alloc (c := (Sg.zero).l) Try.zeroValue53 rfl (fun aB4_6 w4_6 e4_6 gB4_6 hB4_6 => ?_))
      have lB4_6 := Nat.le_trans hE.size gB4_6
      have nB1_0B4_6 := hB1_0.ne gB4_6
      replace hE := hE.trans e4_6
      replace hB1_0 := hB1_0.ext e4_6
      replace k4_2 := k4_2.fb (Fb.ext e4_6)
      have h0 := hB4_6
      refine L (D_storeA Try.sizeOf53 hB4_6 rfl rfl rfl rfl rfl (l' := (x4_2).l) rfl (fun w4_7 k4_7 hB4_6 => ?_))
      have f4_7 := Fb.kp k4_7 (Nat.le_trans (Nat.le_refl _) lB4_6) (Blk.notB h0 rfl)
      replace hE := hE.kp k4_7 lB4_6
      replace hB1_0 := hB1_0.kp k4_7 nB1_0B4_6
      replace k4_2 := k4_2.fb (Fb.kp k4_7 (Nat.zero_le _) (Blk.notB h0 rfl))
      refine L (D_v (R_assign rfl) ?_)
      refine S_nil ?_
      refine T_tn ?_
      refine wp_seq ?_
      refine W_region ?_
      refine L (D_v (R_move rfl) ?_)
      refine L (D_v (R_sliceLo (i := 393) Try.underlying31 Try.sizeOf5 rfl rfl (h.ext hE) (by (try simp only [List.length_take, List.length_drop, List.length_append, List.length_cons, List.length_nil, List.length_replicate, List.length_set, Nm.b_len, be2_len]); omega)) ?_)
      refine L (D_callE (R_callF Try.call69 rfl rfl) (c69 (cutV v 1 (393) ((b).length)) ((((b).drop (393)).take ((b).length - 393))) _ ((h.ext hE).cut (by (try simp only [List.length_take, List.length_drop, List.length_append, List.length_cons, List.length_nil, List.length_replicate, List.length_set, Nm.b_len, be2_len]); omega) (by (try simp only [List.length_take, List.length_drop, List.length_append, List.length_cons, List.length_nil, List.length_replicate, List.length_set, Nm.b_len, be2_len]); omega))) (fun v5_2 w5_2 e5_2 p5_2 => ?_))
      obtain ⟨x5_2, rfl, p5_2a, k5_2⟩ := p5_2
      replace hE := hE.trans e5_2
      replace hB1_0 := hB1_0.ext e5_2
      replace hB4_6 := hB4_6.ext e5_2
      replace k4_2 := k4_2.fb (Fb.ext e5_2)
      refine L (D_v (R_move rfl) ?_)
      refine L (D_v (R_extract rfl rfl) ?_)
      refine L (D_v (R_extract rfl rfl) ?_)
      refine L (D_alloc (c := (Sg.zero).l) Try.zeroValue53 rfl (fun aB5_6 w5_6 e5_6 gB5_6 hB5_6 => ?_))
      have lB5_6 := Nat.le_trans hE.size gB5_6
      have nB1_0B5_6 := hB1_0.ne gB5_6
      have nB4_6B5_6 := hB4_6.ne gB5_6
      replace hE := hE.trans e5_6
      replace hB1_0 := hB1_0.ext e5_6
      replace hB4_6 := hB4_6.ext e5_6
      replace k4_2 := k4_2.fb (Fb.ext e5_6)
      replace k5_2 := k5_2.fb (Fb.ext e5_6)
      have h0 := hB5_6
      refine L (D_storeA Try.sizeOf53 hB5_6 rfl rfl rfl rfl rfl (l' := (x5_2).l) rfl (fun w5_7 k5_7 hB5_6 => ?_))
      have f5_7 := Fb.kp k5_7 (Nat.le_trans (Nat.le_refl _) lB5_6) (Blk.notB h0 rfl)
      replace hE := hE.kp k5_7 lB5_6
      replace hB1_0 := hB1_0.kp k5_7 nB1_0B5_6
      replace hB4_6 := hB4_6.kp k5_7 nB4_6B5_6
      replace k4_2 := k4_2.fb (Fb.kp k5_7 (Nat.zero_le _) (Blk.notB h0 rfl))
      replace k5_2 := k5_2.fb (Fb.kp k5_7 (Nat.zero_le _) (Blk.notB h0 rfl))
      refine L (D_v (R_assign rfl) ?_)
      refine S_nil ?_
      refine T_tn ?_
      refine wp_seq ?_
      refine wp_seq ?_
      refine W_region ?_
      refine L (D_v (R_move rfl) ?_)
      refine L (D_v (R_neqI rfl rfl) ?_)
      refine L (D_v (R_move rfl) ?_)
      refine L (D_g1 rfl rfl (fun hb => R_move rfl) ?_)
      refine L (D_g1 rfl rfl (fun hb => R_neqI (cgE hb) rfl) ?_)
      refine L (D_v (R_pickO rfl rfl rfl) ?_)
      refine S_nil ?_
      refine T_tn ?_
      refine W_if rfl (fun c3 => ?_) (fun c3 => ?_)
      ·
        have hb0 : (decS (b.take 393)).2 ≠ 0 ∨ (decS (b.drop 393)).2 ≠ 0 := by rw [take0, dropn] at c3; simpa [Classical.or_iff_not_imp_left] using c3
        refine wp_seq ?_
        refine W_region ?_
        refine L (D_v (R_buildS (c := Ev.zero.l) Try.runUnderlying55 places55 Try.zeroValue55 rfl rfl) ?_)
        have h0 := hB1_0
        refine L (D_storeA Try.sizeOf55 hB1_0 rfl rfl rfl rfl rfl (l' := (Ev.zero).l) rfl (fun w7_1 k7_1 hB1_0 => ?_))
        have f7_1 := Fb.kp k7_1 (Nat.le_trans (Nat.le_refl _) lB1_0) (Blk.notB h0 rfl)
        replace hE := hE.kp k7_1 lB1_0
        replace k4_2 := k4_2.fb (Fb.kp k7_1 (Nat.zero_le _) (Blk.notB h0 rfl))
        replace k5_2 := k5_2.fb (Fb.kp k7_1 (Nat.zero_le _) (Blk.notB h0 rfl))
        refine L (D_v (R_assign rfl) ?_)
        refine S_nil ?_
        refine T_tn ?_
        refine wp_ret ?_
        refine T_tr ?_
        refine retct (c := (Ev.zero).l) (v2 := i64 (11)) rfl rfl rfl Try.isAgg55 Try.sizeOf55 hB1_0 rfl rfl ⟨_, rfl, hE, ?_⟩
        rw [decE_bad hl hb0]
        exact ⟨Ev.zero, by first | rfl | (simp only [take0, dropn]; rfl), rfl, Ev.okz 0 _⟩
      ·
        have hb0 : (decS (b.take 393)).2 = 0 ∧ (decS (b.drop 393)).2 = 0 := by rw [take0, dropn] at c3; simpa using c3
        refine wp_skip ?_
        refine T_tn ?_
        refine wp_seq ?_
        refine W_region ?_
        refine L (D_v (R_loadA (c := (x4_2).l) Try.isAgg53 Try.sizeOf53 hB4_6 rfl rfl rfl) ?_)
        refine L (D_v (R_loadA (c := (x5_2).l) Try.isAgg53 Try.sizeOf53 hB5_6 rfl rfl rfl) ?_)
        have k7_2 : Ev.okf w.heap.size w5_7 (⟨x4_2, x5_2⟩ : Ev) := ⟨(k4_2.up (Nat.zero_le _)), (k5_2.up (Nat.zero_le _))⟩
        refine L (D_v (R_buildS (vs := [(0, .agg (x4_2).l.toArray), (1, .agg (x5_2).l.toArray)]) (c := (⟨x4_2, x5_2⟩ : Ev).l) Try.runUnderlying55 places55 Try.zeroValue55 (mapp2 rfl rfl) (fill55 _ _)) ?_)
        have h0 := hB1_0
        refine L (D_storeA Try.sizeOf55 hB1_0 rfl rfl rfl rfl rfl (l' := ((⟨x4_2, x5_2⟩ : Ev)).l) rfl (fun w7_3 k7_3 hB1_0 => ?_))
        have f7_3 := Fb.kp k7_3 (Nat.le_trans (Nat.le_refl _) lB1_0) (Blk.notB h0 rfl)
        replace hE := hE.kp k7_3 lB1_0
        replace hB4_6 := hB4_6.kp k7_3 nB1_0B4_6.symm
        replace hB5_6 := hB5_6.kp k7_3 nB1_0B5_6.symm
        replace k4_2 := k4_2.fb (Fb.kp k7_3 (Nat.zero_le _) (Blk.notB h0 rfl))
        replace k5_2 := k5_2.fb (Fb.kp k7_3 (Nat.zero_le _) (Blk.notB h0 rfl))
        replace k7_2 := k7_2.fb f7_3
        refine L (D_v (R_assign rfl) ?_)
        refine S_nil ?_
        refine T_tn ?_
        refine wp_ret ?_
        refine retct (c := ((⟨x4_2, x5_2⟩ : Ev)).l) (v2 := i64 (0)) rfl rfl rfl Try.isAgg55 Try.sizeOf55 hB1_0 rfl rfl ⟨_, rfl, hE, ?_⟩
        rw [decE_ok hl hb0.1 hb0.2]
        simp only [take0, dropn] at p4_2a p5_2a
        exact ⟨(⟨x4_2, x5_2⟩ : Ev), rfl, Prod.ext p4_2a p5_2a, ⟨k4_2, k5_2⟩⟩
end Go.Proofs.Yteeopgpgbdhmhaa
