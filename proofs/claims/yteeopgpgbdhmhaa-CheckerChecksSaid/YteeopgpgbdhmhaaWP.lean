/- Walks of the functions on bytes: checking. No condition. Printed by wip/mkM.py. -/
import Derived.Test.YteeopgpgbdhmhaaWO
namespace Go.Proofs.Yteeopgpgbdhmhaa
open Go.RowKit
set_option linter.unusedVariables false
set_option linter.unusedSimpArgs false
attribute [local irreducible] wpList wpO H wpQuiet wpStill Code.wp Exit.then Exit.inBlock bodyPost Code.rounds Calls valid sameKey conflict lessV hless num between
-- forkledger/checker.fault
set_option maxRecDepth 4000 in
set_option maxHeartbeats 2000000 in
theorem c90 (vk : Value) (keys : List Nm) (x : Ev) (p : Int) (w : World) (hk : Ls cN w.heap.size w vk keys) (hs : x.okf w.heap.size w) : Calls Try.prog 90 [vk, x.v, i64 p].toArray w (Ret w (i64 (flt keys x.p p))) := by
  refine enter Try.func90 Try.ntmps90 rfl rfl ?_
  have hE := Ext.refl w
  refine wp_seq ?_
  refine W_region ?_
  refine L (D_box (c := (x).l) (rfl) (fun aB1_0 w1_0 e1_0 gB1_0 hB1_0 => ?_))
  have lB1_0 := Nat.le_trans hE.size gB1_0
  replace hE := hE.trans e1_0
  refine L (D_v (R_assign rfl) ?_)
  refine S_nil ?_
  refine T_tn ?_
  refine wp_seq ?_
  refine W_region ?_
  refine L (D_v (R_fieldAddr Try.runUnderlying55 rfl Try.sizeOf53 rfl) ?_)
  refine L (D_v (R_fieldAddr Try.runUnderlying53 rfl Try.sizeOf26 rfl) ?_)
  refine L (D_v (R_fieldAddr Try.runUnderlying26 rfl Try.sizeOf3 rfl) ?_)
  refine L (D_v (R_load Try.isAgg3 hB1_0 rfl rfl) ?_)
  refine L (D_v (R_assign rfl) ?_)
  refine S_nil ?_
  refine T_tn ?_
  refine wp_seq ?_
  refine wp_block ?_
  refine wp_seq ?_
  refine W_region ?_
  refine L (D_v (R_fieldAddr Try.runUnderlying55 rfl Try.sizeOf53 rfl) ?_)
  refine L (D_v (R_fieldAddr Try.runUnderlying53 rfl Try.sizeOf26 rfl) ?_)
  refine L (D_v (R_loadA (c := ((x).a.vote).l) Try.isAgg26 Try.sizeOf26 hB1_0 rfl rfl rfl) ?_)
  refine L (D_v (R_fieldAddr Try.runUnderlying55 rfl Try.sizeOf53 rfl) ?_)
  refine L (D_v (R_fieldAddr Try.runUnderlying53 rfl Try.sizeOf26 rfl) ?_)
  refine L (D_v (R_loadA (c := ((x).b.vote).l) Try.isAgg26 Try.sizeOf26 hB1_0 rfl rfl rfl) ?_)
  refine L (D_call (R_callF Try.call31 rfl rfl) (c31 ((x).a.vote) ((x).b.vote) _ ) (fun w3_6 e3_6 => ?_))
  replace hE := hE.trans e3_6
  replace hB1_0 := hB1_0.ext e3_6
  refine L (D_v (R_not rfl) ?_)
  refine L (D_v (R_move rfl) ?_)
  refine L (D_g1 rfl rfl (fun hb => R_fieldAddr Try.runUnderlying55 rfl Try.sizeOf53 rfl) ?_)
  refine L (D_g1 rfl rfl (fun hb => R_fieldAddr Try.runUnderlying53 rfl Try.sizeOf26 (cgE hb)) ?_)
  refine L (D_g1 rfl rfl (fun hb => R_loadA (c := ((x).a.vote).l) Try.isAgg26 Try.sizeOf26 hB1_0 (cgE hb) rfl rfl) ?_)
  refine L (D_g1 rfl rfl (fun hb => R_fieldAddr Try.runUnderlying55 rfl Try.sizeOf53 rfl) ?_)
  refine L (D_g1 rfl rfl (fun hb => R_fieldAddr Try.runUnderlying53 rfl Try.sizeOf26 (cgE hb)) ?_)
  refine L (D_g1 rfl rfl (fun hb => R_loadA (c := ((x).b.vote).l) Try.isAgg26 Try.sizeOf26 hB1_0 (cgE hb) rfl rfl) ?_)
  refine L (D_gc1 rfl rfl (fun hb => R_callF Try.call33 (mapv2 (cgE hb) (cgE hb)) rfl) (fun hb => c33 ((x).a.vote) ((x).b.vote) _ ) (fun w3_15 e3_15 => ?_))
  replace hE := hE.trans e3_15
  replace hB1_0 := hB1_0.ext e3_15
  refine L (D_g1 rfl rfl (fun hb => R_not (cgE hb)) ?_)
  refine L (D_v (R_pickO rfl rfl rfl) ?_)
  refine L (D_v (R_assign rfl) ?_)
  refine S_nil ?_
  refine T_tn ?_
  refine W_if rfl (fun c1 => ?_) (fun c1 => ?_)
  ·
    have h9 : (!(conflict (x).p.1.1 (x).p.2.1) || !(lessV (x).p.1.1 (x).p.2.1)) = true := c1
    refine wp_seq ?_
    refine W_region ?_
    refine L (D_v (R_assign rfl) ?_)
    refine S_nil ?_
    refine T_tn ?_
    refine wp_ret ?_
    refine T_br ?_
    refine T_tr ?_
    refine ret1 (v := .int _ _) rfl rfl ⟨?_, hE⟩
    rw [flt_9 h9]; rfl
  ·
    have h9 : (!(conflict (x).p.1.1 (x).p.2.1) || !(lessV (x).p.1.1 (x).p.2.1)) = false := c1
    have h0 : 0 ≤ (x).a.vote.signer := (valid_signer (conflict_parts (or_nots h9).1).1).1
    refine wp_seq ?_
    refine W_region ?_
    refine L (D_v (R_move rfl) ?_)
    refine L (D_v (R_move rfl) ?_)
    refine L (D_v (R_leqI rfl rfl) ?_)
    refine L (D_v (R_assign rfl) ?_)
    refine S_nil ?_
    refine T_tn ?_
    refine W_if rfl (fun c2 => ?_) (fun c2 => ?_)
    ·
      have h10 :  (x).p.1.1.signer ≤ p := of_decide_eq_true c2
      refine wp_seq ?_
      refine W_region ?_
      refine L (D_v (R_assign rfl) ?_)
      refine S_nil ?_
      refine T_tn ?_
      refine wp_ret ?_
      refine T_br ?_
      refine T_tr ?_
      refine ret1 (v := .int _ _) rfl rfl ⟨?_, hE⟩
      rw [flt_10 h9 h10]; rfl
    ·
      have h10 : ¬ (x).p.1.1.signer ≤ p := of_decide_eq_false c2
      refine wp_seq ?_
      refine W_draw mixed (by kernel_rfl) ?_
      refine Q_v (fun w hw => R_move rfl) ?_
      refine Q_v (fun w hw => R_move rfl) ?_
      refine Q_v (fun w hw => R_len Try.underlying45 rfl (hk.ext (hE.trans hw)).1) ?_
      refine Q_v (fun w hw => R_geqI rfl rfl) ?_
      refine Q_v (fun w hw => R_move rfl) ?_
      refine Q_g1 rfl rfl (fun hb w hw => R_move rfl) ?_
      refine Q_g1 rfl rfl (fun hb w hw => R_move rfl) ?_
      refine Q_g1 rfl rfl (fun hb w hw => R_elI (i := ((x).a).vote.signer) Try.underlying45 Try.sizeOf24 (cgE hb) (cgE hb) (hk.ext (hE.trans hw)).1 h0 (by first | (have h1 := of_decide_eq_false hb; omega) | (simp at hb; omega) | omega)) ?_
      refine Q_g1 rfl rfl (fun hb w hw => R_ldL (C := cN) (i := (((x).a).vote.signer).toNat) (y := ((keys).getD ((((x).a).vote.signer).toNat) Nm.zero)) Try.isAgg24 Try.sizeOf24 (cgE hb) (hk.ext (hE.trans hw)) (getD_some (d := Nm.zero) (by first | (have h1 := of_decide_eq_false hb; omega) | (simp at hb; omega) | omega))) ?_
      refine Q_g1 rfl rfl (fun hb w hw => R_fieldAddr Try.runUnderlying55 rfl Try.sizeOf53 rfl) ?_
      refine Q_g1 rfl rfl (fun hb w hw => R_loadA (c := ((x).a).l) Try.isAgg53 Try.sizeOf53 (hB1_0.ext hw) (cgE hb) rfl rfl) ?_
      refine Q_gc1 rfl rfl (fun hb w hw => R_callF Try.call75 (mapv2 (cgE hb) (cgE hb)) rfl) (fun hb w hw => c75 (((keys).getD ((((x).a).vote.signer).toNat) Nm.zero)) ((x).a) _ (((hs.fb (Fb.ext (hE.trans hw))).1).up (Nat.le_trans (Nat.le_refl _) (hE.trans hw).size))) ?_
      refine Q_g1 rfl rfl (fun hb w hw => R_not (cgE hb)) ?_
      refine Q_v (fun w hw => R_pickO rfl rfl rfl) ?_
      refine Q_v (fun w hw => R_move rfl) ?_
      refine Q_g1 rfl rfl (fun hb w hw => R_move rfl) ?_
      refine Q_g1 rfl rfl (fun hb w hw => R_move rfl) ?_
      refine Q_g1 rfl rfl (fun hb w hw => R_elI (i := ((x).a).vote.signer) Try.underlying45 Try.sizeOf24 (cgE hb) (cgE hb) (hk.ext (hE.trans hw)).1 h0 (by first | (have h1 := of_decide_eq_false hb; omega) | (simp at hb; omega) | omega)) ?_
      refine Q_g1 rfl rfl (fun hb w hw => R_ldL (C := cN) (i := (((x).a).vote.signer).toNat) (y := ((keys).getD ((((x).a).vote.signer).toNat) Nm.zero)) Try.isAgg24 Try.sizeOf24 (cgE hb) (hk.ext (hE.trans hw)) (getD_some (d := Nm.zero) (by first | (have h1 := of_decide_eq_false hb; omega) | (simp at hb; omega) | omega))) ?_
      refine Q_g1 rfl rfl (fun hb w hw => R_fieldAddr Try.runUnderlying55 rfl Try.sizeOf53 rfl) ?_
      refine Q_g1 rfl rfl (fun hb w hw => R_loadA (c := ((x).b).l) Try.isAgg53 Try.sizeOf53 (hB1_0.ext hw) (cgE hb) rfl rfl) ?_
      refine Q_gc1 rfl rfl (fun hb w hw => R_callF Try.call75 (mapv2 (cgE hb) (cgE hb)) rfl) (fun hb w hw => c75 (((keys).getD ((((x).a).vote.signer).toNat) Nm.zero)) ((x).b) _ (((hs.fb (Fb.ext (hE.trans hw))).2).up (Nat.le_trans (Nat.le_refl _) (hE.trans hw).size))) ?_
      refine Q_g1 rfl rfl (fun hb w hw => R_not (cgE hb)) ?_
      refine Q_v (fun w hw => R_pickO rfl rfl rfl) ?_
      refine Q_v (fun w hw => R_assign rfl) ?_
      refine Q_nil (fun w5_99 e5_99 => ?_)
      replace hE := hE.trans e5_99
      replace hB1_0 := hB1_0.ext e5_99
      refine T_tn ?_
      refine W_if rfl (fun c3 => ?_) (fun c3 => ?_)
      ·
        refine wp_seq ?_
        refine W_region ?_
        refine L (D_v (R_assign rfl) ?_)
        refine S_nil ?_
        refine T_tn ?_
        refine wp_ret ?_
        refine T_br ?_
        refine T_tr ?_
        refine ret1 (v := .int _ _) rfl rfl ⟨?_, hE⟩
        rw [flt_8 h9 h10 (by exact c3)]; rfl
      ·
        refine wp_skip ?_
        refine T_bn ?_
        refine T_tn ?_
        refine wp_seq ?_
        refine W_region ?_
        refine L (D_v (R_assign rfl) ?_)
        refine S_nil ?_
        refine T_tn ?_
        refine wp_ret ?_
        refine ret1 (v := .int _ _) rfl rfl ⟨?_, hE⟩
        rw [flt_0 h9 h10 (by exact c3)]; rfl

-- forkledger/forkledgerref6.verify
set_option maxRecDepth 4000 in
set_option maxHeartbeats 2000000 in
theorem c91 (vk : Value) (keys : List Nm) (x : Sg) (w : World) (hk : Ls cN w.heap.size w vk keys) (hs : x.okf w.heap.size w) : Calls Try.prog 91 [vk, x.v].toArray w (Ret w (.bool (verK keys x.p))) := by
  refine enter Try.func91 Try.ntmps91 rfl rfl ?_
  have hE := Ext.refl w
  refine wp_seq ?_
  refine W_region ?_
  refine L (D_box (c := (x).l) (rfl) (fun aB1_0 w1_0 e1_0 gB1_0 hB1_0 => ?_))
  have lB1_0 := Nat.le_trans hE.size gB1_0
  replace hE := hE.trans e1_0
  refine L (D_v (R_assign rfl) ?_)
  refine S_nil ?_
  refine T_tn ?_
  refine wp_seq ?_
  refine W_draw mixed (by kernel_rfl) ?_
  refine Q_v (fun w hw => R_fieldAddr Try.runUnderlying53 rfl Try.sizeOf26 rfl) ?_
  refine Q_v (fun w hw => R_fieldAddr Try.runUnderlying26 rfl Try.sizeOf3 rfl) ?_
  refine Q_v (fun w hw => R_load Try.isAgg3 (hB1_0.ext hw) rfl rfl) ?_
  refine Q_v (fun w hw => R_geqI rfl rfl) ?_
  refine Q_v (fun w hw => R_move rfl) ?_
  refine Q_g1 rfl rfl (fun hb w hw => R_fieldAddr Try.runUnderlying53 rfl Try.sizeOf26 rfl) ?_
  refine Q_g1 rfl rfl (fun hb w hw => R_fieldAddr Try.runUnderlying26 rfl Try.sizeOf3 (cgE hb)) ?_
  refine Q_g1 rfl rfl (fun hb w hw => R_load Try.isAgg3 (hB1_0.ext hw) (cgE hb) rfl) ?_
  refine Q_g1 rfl rfl (fun hb w hw => R_move rfl) ?_
  refine Q_g1 rfl rfl (fun hb w hw => R_len Try.underlying45 (cgE hb) (hk.ext (hE.trans hw)).1) ?_
  refine Q_g1 rfl rfl (fun hb w hw => R_lssI (cgE hb) (cgE hb)) ?_
  refine Q_v (fun w hw => R_pickA rfl rfl rfl) ?_
  refine Q_v (fun w hw => R_move rfl) ?_
  refine Q_g1 rfl rfl (fun hb w hw => R_move rfl) ?_
  refine Q_g1 rfl rfl (fun hb w hw => R_fieldAddr Try.runUnderlying53 rfl Try.sizeOf26 rfl) ?_
  refine Q_g1 rfl rfl (fun hb w hw => R_fieldAddr Try.runUnderlying26 rfl Try.sizeOf3 (cgE hb)) ?_
  refine Q_g1 rfl rfl (fun hb w hw => R_load Try.isAgg3 (hB1_0.ext hw) (cgE hb) rfl) ?_
  refine Q_g1 rfl rfl (fun hb w hw => R_elI (i := (x).vote.signer) Try.underlying45 Try.sizeOf24 (cgE hb) (cgE hb) (hk.ext (hE.trans hw)).1 (by simp at hb; omega) (by simp at hb; omega)) ?_
  refine Q_g1 rfl rfl (fun hb w hw => R_ldL (C := cN) (i := ((x).vote.signer).toNat) (y := ((keys).getD (((x).vote.signer).toNat) Nm.zero)) Try.isAgg24 Try.sizeOf24 (cgE hb) (hk.ext (hE.trans hw)) (getD_some (d := Nm.zero) (by simp at hb; omega))) ?_
  refine Q_g1 rfl rfl (fun hb w hw => R_loadA (c := (x).l) Try.isAgg53 Try.sizeOf53 (hB1_0.ext hw) rfl rfl rfl) ?_
  refine Q_gc1 rfl rfl (fun hb w hw => R_callF Try.call116 (mapv2 (cgE hb) (cgE hb)) rfl) (fun hb w hw => c116 (((keys).getD (((x).vote.signer).toNat) Nm.zero)) (x) _ ((hs.fb (Fb.ext (hE.trans hw))).up (Nat.le_trans (Nat.le_refl _) (hE.trans hw).size))) ?_
  refine Q_v (fun w hw => R_pickA rfl rfl rfl) ?_
  refine Q_v (fun w hw => R_assign rfl) ?_
  refine Q_nil (fun w2_99 e2_99 => ?_)
  replace hE := hE.trans e2_99
  replace hB1_0 := hB1_0.ext e2_99
  refine T_tn ?_
  refine wp_ret ?_
  refine ret1 (v := .bool _) rfl rfl ⟨congrArg (fun b => Ending.returned (Value.bool b)) ?_, hE⟩
  rfl

-- forkledger/forkledgerref6.ValidEvidence
set_option maxRecDepth 4000 in
set_option maxHeartbeats 2000000 in
theorem c50 (vk : Value) (keys : List Nm) (x : Ev) (w : World) (hk : Ls cN w.heap.size w vk keys) (hs : x.okf w.heap.size w) : Calls Try.prog 50 [vk, x.v].toArray w (Ret w (.bool (validE keys x.p))) := by
  refine enter Try.func50 Try.ntmps50 rfl rfl ?_
  have hE := Ext.refl w
  refine wp_seq ?_
  refine W_region ?_
  refine L (D_box (c := (x).l) (rfl) (fun aB1_0 w1_0 e1_0 gB1_0 hB1_0 => ?_))
  have lB1_0 := Nat.le_trans hE.size gB1_0
  replace hE := hE.trans e1_0
  refine L (D_v (R_assign rfl) ?_)
  refine S_nil ?_
  refine T_tn ?_
  refine wp_seq ?_
  refine W_region ?_
  refine L (D_v (R_fieldAddr Try.runUnderlying55 rfl Try.sizeOf53 rfl) ?_)
  refine L (D_v (R_fieldAddr Try.runUnderlying53 rfl Try.sizeOf26 rfl) ?_)
  refine L (D_v (R_loadA (c := ((x).a.vote).l) Try.isAgg26 Try.sizeOf26 hB1_0 rfl rfl rfl) ?_)
  refine L (D_v (R_fieldAddr Try.runUnderlying55 rfl Try.sizeOf53 rfl) ?_)
  refine L (D_v (R_fieldAddr Try.runUnderlying53 rfl Try.sizeOf26 rfl) ?_)
  refine L (D_v (R_loadA (c := ((x).b.vote).l) Try.isAgg26 Try.sizeOf26 hB1_0 rfl rfl rfl) ?_)
  refine L (D_call (R_callF Try.call32 rfl rfl) (c32 ((x).a.vote) ((x).b.vote) _ ) (fun w2_6 e2_6 => ?_))
  replace hE := hE.trans e2_6
  replace hB1_0 := hB1_0.ext e2_6
  refine L (D_v (R_move rfl) ?_)
  refine L (D_g1 rfl rfl (fun hb => R_fieldAddr Try.runUnderlying55 rfl Try.sizeOf53 rfl) ?_)
  refine L (D_g1 rfl rfl (fun hb => R_fieldAddr Try.runUnderlying53 rfl Try.sizeOf26 (cgE hb)) ?_)
  refine L (D_g1 rfl rfl (fun hb => R_loadA (c := ((x).a.vote).l) Try.isAgg26 Try.sizeOf26 hB1_0 (cgE hb) rfl rfl) ?_)
  refine L (D_g1 rfl rfl (fun hb => R_fieldAddr Try.runUnderlying55 rfl Try.sizeOf53 rfl) ?_)
  refine L (D_g1 rfl rfl (fun hb => R_fieldAddr Try.runUnderlying53 rfl Try.sizeOf26 (cgE hb)) ?_)
  refine L (D_g1 rfl rfl (fun hb => R_loadA (c := ((x).b.vote).l) Try.isAgg26 Try.sizeOf26 hB1_0 (cgE hb) rfl rfl) ?_)
  refine L (D_gc1 rfl rfl (fun hb => R_callF Try.call34 (mapv2 (cgE hb) (cgE hb)) rfl) (fun hb => c34 ((x).a.vote) ((x).b.vote) _ ) (fun w2_14 e2_14 => ?_))
  replace hE := hE.trans e2_14
  replace hB1_0 := hB1_0.ext e2_14
  refine L (D_v (R_pickA rfl rfl rfl) ?_)
  refine L (D_v (R_move rfl) ?_)
  refine L (D_g1 rfl rfl (fun hb => R_move rfl) ?_)
  refine L (D_g1 rfl rfl (fun hb => R_fieldAddr Try.runUnderlying55 rfl Try.sizeOf53 rfl) ?_)
  refine L (D_g1 rfl rfl (fun hb => R_loadA (c := ((x).a).l) Try.isAgg53 Try.sizeOf53 hB1_0 (cgE hb) rfl rfl) ?_)
  refine L (D_gc1 rfl rfl (fun hb => R_callF Try.call91 (mapv2 (cgE hb) (cgE hb)) rfl) (fun hb => c91 vk (keys) ((x).a) _ ((hk.ext hE).lev fun _ _ _ => trivial) (((hs.fb (Fb.ext hE)).1).up (Nat.le_trans (Nat.le_refl _) hE.size))) (fun w2_20 e2_20 => ?_))
  replace hE := hE.trans e2_20
  replace hB1_0 := hB1_0.ext e2_20
  refine L (D_v (R_pickA rfl rfl rfl) ?_)
  refine L (D_v (R_move rfl) ?_)
  refine L (D_g1 rfl rfl (fun hb => R_move rfl) ?_)
  refine L (D_g1 rfl rfl (fun hb => R_fieldAddr Try.runUnderlying55 rfl Try.sizeOf53 rfl) ?_)
  refine L (D_g1 rfl rfl (fun hb => R_loadA (c := ((x).b).l) Try.isAgg53 Try.sizeOf53 hB1_0 (cgE hb) rfl rfl) ?_)
  refine L (D_gc1 rfl rfl (fun hb => R_callF Try.call91 (mapv2 (cgE hb) (cgE hb)) rfl) (fun hb => c91 vk (keys) ((x).b) _ ((hk.ext hE).lev fun _ _ _ => trivial) (((hs.fb (Fb.ext hE)).2).up (Nat.le_trans (Nat.le_refl _) hE.size))) (fun w2_26 e2_26 => ?_))
  replace hE := hE.trans e2_26
  replace hB1_0 := hB1_0.ext e2_26
  refine L (D_v (R_pickA rfl rfl rfl) ?_)
  refine L (D_v (R_assign rfl) ?_)
  refine S_nil ?_
  refine T_tn ?_
  refine wp_ret ?_
  refine ret1 (v := .bool _) rfl rfl ⟨congrArg (fun b => Ending.returned (Value.bool b)) ?_, hE⟩
  rfl

-- forkledger/forkledgerref6.Bit
set_option maxRecDepth 4000 in
set_option maxHeartbeats 1000000 in
theorem c51 (i : Int) (w : World) : Calls Try.prog 51 [i64 i].toArray w (Ret w (i64 (bitR i))) := by
  refine enter Try.func51 Try.ntmps51 rfl rfl ?_
  have hE := Ext.refl w
  refine wp_seq ?_
  refine W_region ?_
  refine L (D_v (R_assign rfl) ?_)
  refine S_nil ?_
  refine T_tn ?_
  refine wp_seq ?_
  refine wp_seq ?_
  refine W_region ?_
  refine L (D_v (R_move rfl) ?_)
  refine L (D_v (R_lssI rfl rfl) ?_)
  refine L (D_v (R_move rfl) ?_)
  refine L (D_g1 rfl rfl (fun hb => R_move rfl) ?_)
  refine L (D_g1 rfl rfl (fun hb => R_geqI (cgE hb) rfl) ?_)
  refine L (D_v (R_pickO rfl rfl rfl) ?_)
  refine S_nil ?_
  refine T_tn ?_
  refine W_if rfl (fun c1 => ?_) (fun c1 => ?_)
  ·
    have hv : i < 0 ∨ 10 ≤ i := by simpa using c1
    refine wp_seq ?_
    refine W_region ?_
    refine L (D_v (R_assign rfl) ?_)
    refine S_nil ?_
    refine T_tn ?_
    refine wp_ret ?_
    refine T_tr ?_
    refine ret1 (v := .int _ _) rfl rfl ⟨?_, hE⟩
    unfold bitR; rw [if_pos hv]; rfl
  ·
    have hv : 0 ≤ i ∧ i ≤ 9 := by simp at c1; omega
    refine wp_skip ?_
    refine T_tn ?_
    refine wp_seq ?_
    refine W_region ?_
    refine L (D_v (R_move rfl) ?_)
    refine L (D_v (R_cast (v' := .int .u64 i) (R_conv Try.runUnderlying3 Try.runUnderlying83 rfl) (congrArg (Value.int .u64) (by have hbp := hv; rw [IntKind.wrap_u64]; omega))) ?_)
    refine L (D_v (R_bit (s := i) rfl rfl hv) ?_)
    refine L (D_v (R_assign rfl) ?_)
    refine S_nil ?_
    refine T_tn ?_
    refine wp_ret ?_
    refine ret1 (v := .int _ _) rfl rfl ⟨?_, hE⟩
    rw [bitR_in hv]; rfl

-- forkledger/checker.Check
set_option maxRecDepth 4000 in
set_option maxHeartbeats 8000000 in
theorem c45 (vk : Value) (keys : List Nm) (v : Value) (b : List UInt8) (w : World) (hk : Ls cN w.heap.size w vk keys) (h : Bs w v b) : Calls Try.prog 45 [vk, v].toArray w (Ret w (.tuple #[i64 (chk keys b).1, i64 (chk keys b).2])) := by
  refine enter Try.func45 Try.ntmps45 rfl rfl ?_
  have hE := Ext.refl w
  have hbb := h.le
  have hb0 := (b.getD 0 0).toNat_lt
  refine wp_seq ?_
  refine W_region ?_
  refine L (D_v (R_assign rfl) ?_)
  refine L (D_v (R_assign rfl) ?_)
  refine S_nil ?_
  refine T_tn ?_
  refine W_scope 0 rfl ?_
  refine wp_seq ?_
  refine W_region ?_
  refine L (D_v (R_assign rfl) ?_)
  refine S_nil ?_
  refine T_tn ?_
  refine wp_seq ?_
  refine W_region ?_
  refine L (D_v (R_assign rfl) ?_)
  refine S_nil ?_
  refine T_tn ?_
  refine wp_seq ?_
  refine W_region ?_
  refine L (D_v (R_assign rfl) ?_)
  refine L (D_v (R_assign rfl) ?_)
  refine S_nil ?_
  refine T_tn ?_
  refine wp_seq ?_
  refine wp_seq ?_
  refine W_region ?_
  refine L (D_v (R_move rfl) ?_)
  refine L (D_v (R_len Try.underlying31 rfl (h.ext hE)) ?_)
  refine L (D_v (R_eqlI rfl rfl) ?_)
  refine S_nil ?_
  refine T_tn ?_
  refine W_if rfl (fun c1 => ?_) (fun c1 => ?_)
  ·
    have h0 : b.length = 0 := by simpa using c1
    refine wp_goto ?_
    refine T_tg ?_
    refine T_sg ?_
    refine wp_seq ?_
    refine wp_skip ?_
    refine T_tn ?_
    refine wp_seq ?_
    refine W_region ?_
    refine L (D_v (R_move rfl) ?_)
    refine L (D_v (R_assign rfl) ?_)
    refine L (D_v (R_assign rfl) ?_)
    refine S_nil ?_
    refine T_tn ?_
    refine wp_ret ?_
    refine T_sr ?_
    refine ret2 (v := i64 _) (v2 := i64 _) rfl rfl rfl ⟨?_, hE⟩
    first | (rw [chk_0 h0]; done) | (rw [chk_0 h0]; rfl) | (rw [chk_0 h0]; rw [take0]; rfl) | (rw [chk_0 h0]; rw [take0])
  ·
    have h0 : b.length ≠ 0 := by simpa using c1
    refine wp_skip ?_
    refine T_tn ?_
    refine wp_seq ?_
    refine W_region ?_
    refine L (D_v (R_move rfl) ?_)
    refine L (D_v (R_sliceLo (i := 1) Try.underlying31 Try.sizeOf5 rfl rfl (h.ext hE) (by (try simp only [List.length_take, List.length_drop, List.length_append, List.length_cons, List.length_nil, List.length_replicate, List.length_set, Nm.b_len, be2_len]); omega)) ?_)
    refine L (D_v (R_assign rfl) ?_)
    refine S_nil ?_
    refine T_tn ?_
    refine wp_seq ?_
    refine wp_seq ?_
    refine W_region ?_
    refine L (D_v (R_move rfl) ?_)
    refine L (D_v (R_elAddr (i := 0) Try.underlying31 Try.sizeOf5 rfl rfl (h.ext hE) (by (try simp only [List.length_take, List.length_drop, List.length_append, List.length_cons, List.length_nil, List.length_replicate, List.length_set, Nm.b_len, be2_len]); omega)) ?_)
    refine L (D_v (R_loadEl (u := u8 (((b).getD 0 0))) Try.isAgg5 rfl (h.ext hE) (bl_get (by (try simp only [List.length_take, List.length_drop, List.length_append, List.length_cons, List.length_nil, List.length_replicate, List.length_set, Nm.b_len, be2_len]); omega))) ?_)
    refine L (D_v (R_convU (b := ((b).getD 0 0)) Try.runUnderlying3 (by decide) rfl) ?_)
    refine L (D_v (R_assign rfl) ?_)
    refine S_nil ?_
    refine T_tn ?_
    refine wp_block ?_
    refine wp_seq ?_
    refine W_region ?_
    refine L (D_v (R_move rfl) ?_)
    refine L (D_v (R_eqlI rfl rfl) ?_)
    refine L (D_v (R_move rfl) ?_)
    refine L (D_g1 rfl rfl (fun hb => R_move rfl) ?_)
    refine L (D_g1 rfl rfl (fun hb => R_gtrI (cgE hb) rfl) ?_)
    refine L (D_v (R_pickO rfl rfl rfl) ?_)
    refine L (D_v (R_assign rfl) ?_)
    refine S_nil ?_
    refine T_tn ?_
    refine W_if rfl (fun c2 => ?_) (fun c2 => ?_)
    ·
      have h1 : ((b.getD 0 0).toNat = 0 ∨ 10 < (b.getD 0 0).toNat) := by have e := c2; simp only [Bool.or_eq_true, beq_iff_eq, decide_eq_true_eq] at e; omega
      refine wp_seq ?_
      refine W_region ?_
      refine L (D_v (R_assign rfl) ?_)
      refine S_nil ?_
      refine T_tn ?_
      refine wp_goto ?_
      refine T_bg ?_
      refine T_tg ?_
      refine T_sg ?_
      refine wp_seq ?_
      refine wp_skip ?_
      refine T_tn ?_
      refine wp_seq ?_
      refine W_region ?_
      refine L (D_v (R_move rfl) ?_)
      refine L (D_v (R_assign rfl) ?_)
      refine L (D_v (R_assign rfl) ?_)
      refine S_nil ?_
      refine T_tn ?_
      refine wp_ret ?_
      refine T_sr ?_
      refine ret2 (v := i64 _) (v2 := i64 _) rfl rfl rfl ⟨?_, hE⟩
      first | (rw [chk_4 h0 h1]; done) | (rw [chk_4 h0 h1]; rfl) | (rw [chk_4 h0 h1]; rw [take0]; rfl) | (rw [chk_4 h0 h1]; rw [take0])
    ·
      have h1 : ¬ ((b.getD 0 0).toNat = 0 ∨ 10 < (b.getD 0 0).toNat) := by have e := c2; simp only [Bool.or_eq_false_iff, beq_eq_false_iff_ne, ne_eq, decide_eq_false_iff_not] at e; omega
      refine wp_seq ?_
      refine W_region ?_
      refine L (D_v (R_move rfl) ?_)
      refine L (D_v (R_len Try.underlying31 rfl ((h.ext hE).cut (by (try simp only [List.length_take, List.length_drop, List.length_append, List.length_cons, List.length_nil, List.length_replicate, List.length_set, Nm.b_len, be2_len]); omega) (by (try simp only [List.length_take, List.length_drop, List.length_append, List.length_cons, List.length_nil, List.length_replicate, List.length_set, Nm.b_len, be2_len]); omega))) ?_)
      refine L (D_v (R_move rfl) ?_)
      refine L (D_v (R_mulN (m := (((b).getD 0 0)).toNat) (j := 786) rfl rfl (by (try simp only [List.length_take, List.length_drop, List.length_append, List.length_cons, List.length_nil, List.length_replicate, List.length_set, Nm.b_len, be2_len]); omega)) ?_)
      refine L (D_v (R_lssI rfl rfl) ?_)
      refine L (D_v (R_assign rfl) ?_)
      refine S_nil ?_
      refine T_tn ?_
      refine W_if rfl (fun c3 => ?_) (fun c3 => ?_)
      ·
        have h2 := of_decide_eq_true c3
        simp only [List.length_take, List.length_drop] at h2
        refine wp_goto ?_
        refine T_bg ?_
        refine T_tg ?_
        refine T_sg ?_
        refine wp_seq ?_
        refine wp_skip ?_
        refine T_tn ?_
        refine wp_seq ?_
        refine W_region ?_
        refine L (D_v (R_move rfl) ?_)
        refine L (D_v (R_assign rfl) ?_)
        refine L (D_v (R_assign rfl) ?_)
        refine S_nil ?_
        refine T_tn ?_
        refine wp_ret ?_
        refine T_sr ?_
        refine ret2 (v := i64 _) (v2 := i64 _) rfl rfl rfl ⟨?_, hE⟩
        first | (rw [chk_2 h0 h1 (by omega)]; done) | (rw [chk_2 h0 h1 (by omega)]; rfl) | (rw [chk_2 h0 h1 (by omega)]; rw [take0]; rfl) | (rw [chk_2 h0 h1 (by omega)]; rw [take0])
      ·
        have h2 := of_decide_eq_false c3
        simp only [List.length_take, List.length_drop] at h2
        refine wp_seq ?_
        refine W_region ?_
        refine L (D_v (R_move rfl) ?_)
        refine L (D_v (R_len Try.underlying31 rfl ((h.ext hE).cut (by (try simp only [List.length_take, List.length_drop, List.length_append, List.length_cons, List.length_nil, List.length_replicate, List.length_set, Nm.b_len, be2_len]); omega) (by (try simp only [List.length_take, List.length_drop, List.length_append, List.length_cons, List.length_nil, List.length_replicate, List.length_set, Nm.b_len, be2_len]); omega))) ?_)
        refine L (D_v (R_move rfl) ?_)
        refine L (D_v (R_mulN (m := (((b).getD 0 0)).toNat) (j := 786) rfl rfl (by (try simp only [List.length_take, List.length_drop, List.length_append, List.length_cons, List.length_nil, List.length_replicate, List.length_set, Nm.b_len, be2_len]); omega)) ?_)
        refine L (D_v (R_gtrI rfl rfl) ?_)
        refine L (D_v (R_assign rfl) ?_)
        refine S_nil ?_
        refine T_tn ?_
        refine W_if rfl (fun c4 => ?_) (fun c4 => ?_)
        ·
          have h3 := of_decide_eq_true c4
          simp only [List.length_take, List.length_drop] at h3
          refine wp_seq ?_
          refine W_region ?_
          refine L (D_v (R_assign rfl) ?_)
          refine S_nil ?_
          refine T_tn ?_
          refine wp_goto ?_
          refine T_bg ?_
          refine T_tg ?_
          refine T_sg ?_
          refine wp_seq ?_
          refine wp_skip ?_
          refine T_tn ?_
          refine wp_seq ?_
          refine W_region ?_
          refine L (D_v (R_move rfl) ?_)
          refine L (D_v (R_assign rfl) ?_)
          refine L (D_v (R_assign rfl) ?_)
          refine S_nil ?_
          refine T_tn ?_
          refine wp_ret ?_
          refine T_sr ?_
          refine ret2 (v := i64 _) (v2 := i64 _) rfl rfl rfl ⟨?_, hE⟩
          first | (rw [chk_3 h0 h1 (by omega)]; done) | (rw [chk_3 h0 h1 (by omega)]; rfl) | (rw [chk_3 h0 h1 (by omega)]; rw [take0]; rfl) | (rw [chk_3 h0 h1 (by omega)]; rw [take0])
        ·
          have h3 := of_decide_eq_false c4
          simp only [List.length_take, List.length_drop] at h3
          have hS := chk_S (keys := keys) h0 h1 (by omega)
          have hbl : b.length = 1 + 786 * (b.getD 0 0).toNat := by omega
          refine wp_skip ?_
          refine T_bn ?_
          refine T_tn ?_
          refine wp_seq ?_
          refine wp_block ?_
          refine W_loop (fun mz g W => ∃ (rv : Value) (k : Nat) (r : List UInt8) (p : Int) (gu : Int), mz = k + 0 ∧ g 0 = vk ∧ g 6 = i64 gu ∧ g 7 = rv ∧ g 8 = i64 p ∧ Ext w W ∧ Bs w rv r ∧ r.length = 786 * k ∧ chkS keys k r p gu = chkS keys (b.getD 0 0).toNat (b.drop 1) (-1) 0) ⟨_, (b.getD 0 0).toNat, (((b).drop (1)).take ((b).length - 1)), (-1), 0, rfl, rfl, rfl, rfl, rfl, hE, (h.cut (i := 1) (j := b.length) (by omega) (Nat.le_refl _)), (by simp only [List.length_take, List.length_drop]; omega), (by rw [dropn])⟩ ?_
          rintro mz f11 w11l ⟨rv, k, r, p, gu, hm, q0, q6, q7, q8, hE, hr, hrl, hch⟩
          refine wp_seq ?_
          refine wp_seq ?_
          refine W_region ?_
          refine L (D_v (R_move q7) ?_)
          refine L (D_v (R_len Try.underlying31 rfl (hr.ext hE)) ?_)
          refine L (D_v (R_gtrI rfl rfl) ?_)
          refine S_nil ?_
          refine T_tn ?_
          refine W_if rfl (fun c5 => ?_) (fun c5 => ?_)
          ·
            have hk1 : 0 < k := by have e := of_decide_eq_true c5; omega
            obtain ⟨k, rfl⟩ : ∃ k2, k = k2 + 1 := ⟨k - 1, by omega⟩
            refine wp_skip ?_
            refine T_tn ?_
            refine wp_block ?_
            refine wp_seq ?_
            refine W_region ?_
            refine L (D_v (R_move q7) ?_)
            refine L (D_v (R_sliceHi (j := 786) Try.underlying31 Try.sizeOf5 rfl rfl (hr.ext hE) (by (try simp only [List.length_take, List.length_drop, List.length_append, List.length_cons, List.length_nil, List.length_replicate, List.length_set, Nm.b_len, be2_len]); omega)) ?_)
            refine L (D_callE (R_callF Try.call81 rfl rfl) (c81 (cutV rv 1 (0) (786)) ((((r).drop (0)).take (786 - 0))) _ ((hr.ext hE).cut (by (try simp only [List.length_take, List.length_drop, List.length_append, List.length_cons, List.length_nil, List.length_replicate, List.length_set, Nm.b_len, be2_len]); omega) (by (try simp only [List.length_take, List.length_drop, List.length_append, List.length_cons, List.length_nil, List.length_replicate, List.length_set, Nm.b_len, be2_len]); omega))) (fun v13_2 w13_2 e13_2 p13_2 => ?_))
            obtain ⟨x13_2, rfl, p13_2a, k13_2⟩ := p13_2
            replace hE := hE.trans e13_2
            refine L (D_v (R_move rfl) ?_)
            refine L (D_v (R_extract rfl rfl) ?_)
            refine L (D_v (R_extract rfl rfl) ?_)
            refine L (D_alloc (c := (Ev.zero).l) Try.zeroValue55 rfl (fun aB13_6 w13_6 e13_6 gB13_6 hB13_6 => ?_))
            have lB13_6 := Nat.le_trans hE.size gB13_6
            replace hE := hE.trans e13_6
            replace k13_2 := k13_2.fb (Fb.ext e13_6)
            have h0 := hB13_6
            refine L (D_storeA Try.sizeOf55 hB13_6 rfl rfl rfl rfl rfl (l' := (x13_2).l) rfl (fun w13_7 k13_7 hB13_6 => ?_))
            have f13_7 := Fb.kp k13_7 (Nat.le_trans (Nat.le_refl _) lB13_6) (Blk.notB h0 rfl)
            replace hE := hE.kp k13_7 lB13_6
            replace k13_2 := k13_2.fb (Fb.kp k13_7 (Nat.zero_le _) (Blk.notB h0 rfl))
            refine L (D_v (R_assign rfl) ?_)
            refine S_nil ?_
            refine T_tn ?_
            refine wp_seq ?_
            refine W_region ?_
            refine L (D_v (R_move q7) ?_)
            refine L (D_v (R_sliceLo (i := 786) Try.underlying31 Try.sizeOf5 rfl rfl (hr.ext hE) (by (try simp only [List.length_take, List.length_drop, List.length_append, List.length_cons, List.length_nil, List.length_replicate, List.length_set, Nm.b_len, be2_len]); omega)) ?_)
            refine L (D_v (R_assign rfl) ?_)
            refine S_nil ?_
            refine T_tn ?_
            refine wp_seq ?_
            refine wp_seq ?_
            refine W_region ?_
            refine L (D_v (R_move rfl) ?_)
            refine L (D_v (R_assign rfl) ?_)
            refine S_nil ?_
            refine T_tn ?_
            refine wp_seq ?_
            refine W_region ?_
            refine L (D_v (R_move rfl) ?_)
            refine L (D_v (R_eqlI rfl rfl) ?_)
            refine S_nil ?_
            refine T_tn ?_
            refine W_if rfl (fun c6 => ?_) (fun c6 => ?_)
            ·
              rw [take0] at p13_2a c6
              have he : (decE (r.take 786)).2 = 0 := by simpa using c6
              refine W_region ?_
              refine L (D_v (R_move q0) ?_)
              refine L (D_v (R_loadA (c := (x13_2).l) Try.isAgg55 Try.sizeOf55 hB13_6 rfl rfl rfl) ?_)
              refine L (D_v (R_move q8) ?_)
              refine L (D_call (R_callF Try.call90 rfl rfl) (c90 vk (keys) (x13_2) p _ ((hk.ext hE).lev fun _ _ _ => trivial) ((k13_2.up (Nat.zero_le _)).up (Nat.le_trans (Nat.le_refl _) hE.size))) (fun w17_3 e17_3 => ?_))
              replace hE := hE.trans e17_3
              replace hB13_6 := hB13_6.ext e17_3
              replace k13_2 := k13_2.fb (Fb.ext e17_3)
              refine L (D_v (R_assign rfl) ?_)
              refine S_nil ?_
              refine T_tn ?_
              refine wp_seq ?_
              refine wp_seq ?_
              refine W_region ?_
              refine L (D_v (R_move rfl) ?_)
              refine L (D_v (R_neqI rfl rfl) ?_)
              refine S_nil ?_
              refine T_tn ?_
              refine W_if rfl (fun c7 => ?_) (fun c7 => ?_)
              ·
                have hf : flt keys (decE (r.take 786)).1 p ≠ 0 := by rw [← p13_2a]; simpa using c7
                have hz : (0, flt keys (decE (r.take 786)).1 p) = chk keys b := by rw [hS, ← hch, chkS_flt he hf]
                rw [← p13_2a] at hz
                refine wp_goto ?_
                refine T_tg ?_
                refine T_bg ?_
                refine T_tg ?_
                refine T_bg ?_
                refine T_tg ?_
                refine T_sg ?_
                refine wp_seq ?_
                refine wp_skip ?_
                refine T_tn ?_
                refine wp_seq ?_
                refine W_region ?_
                refine L (D_v (R_move rfl) ?_)
                refine L (D_v (R_assign rfl) ?_)
                refine L (D_v (R_assign rfl) ?_)
                refine S_nil ?_
                refine T_tn ?_
                refine wp_ret ?_
                refine T_sr ?_
                refine ret2 (v := i64 _) (v2 := i64 _) rfl rfl rfl ⟨?_, hE⟩
                first | (rw [hz.symm]; done) | (rw [hz.symm]; rfl) | (rw [hz.symm]; rw [take0]; rfl) | (rw [hz.symm]; rw [take0])
              ·
                have hf : flt keys (decE (r.take 786)).1 p = 0 := by rw [← p13_2a]; simpa using c7
                have hsg := flt_signer hf
                rw [chkS_next he hf, ← p13_2a] at hch
                rw [← p13_2a] at hsg
                refine wp_skip ?_
                refine T_tn ?_
                refine wp_seq ?_
                refine W_region ?_
                refine L (D_v (R_fieldAddr Try.runUnderlying55 rfl Try.sizeOf53 rfl) ?_)
                refine L (D_v (R_fieldAddr Try.runUnderlying53 rfl Try.sizeOf26 rfl) ?_)
                refine L (D_v (R_fieldAddr Try.runUnderlying26 rfl Try.sizeOf3 rfl) ?_)
                refine L (D_v (R_load Try.isAgg3 hB13_6 rfl rfl) ?_)
                refine L (D_v (R_assign rfl) ?_)
                refine S_nil ?_
                refine T_tn ?_
                refine W_region ?_
                refine L (D_v (R_move q6) ?_)
                refine L (D_v (R_move rfl) ?_)
                refine L (D_v (R_bit (s := ((x13_2).a).vote.signer) rfl rfl hsg) ?_)
                refine L (D_v (R_orI rfl rfl) ?_)
                refine L (D_v (R_assign rfl) ?_)
                refine S_nil ?_
                refine T_bn ?_
                refine T_tn ?_
                refine ⟨_, _, ?_, rfl, _, k, (((r).drop (786)).take ((r).length - 786)), _, _, rfl, q0, rfl, rfl, rfl, hE, ?_, ?_, ?_⟩
                all_goals first | omega | exact hr.cut (i := 786) (j := r.length) (by omega) (Nat.le_refl _) | (simp only [List.length_take, List.length_drop]; omega) | (rw [dropn]; exact hch)
            ·
              rw [take0] at p13_2a c6
              have he : (decE (r.take 786)).2 ≠ 0 := by simpa using c6
              have hz : (0, (decE (r.take 786)).2) = chk keys b := by rw [hS, ← hch, chkS_bad he]
              refine wp_skip ?_
              refine T_tn ?_
              refine wp_seq ?_
              refine wp_seq ?_
              refine W_region ?_
              refine L (D_v (R_move rfl) ?_)
              refine L (D_v (R_neqI rfl rfl) ?_)
              refine S_nil ?_
              refine T_tn ?_
              refine W_if rfl (fun c7 => ?_) (fun c7 => ?_)
              ·
                refine wp_goto ?_
                refine T_tg ?_
                refine T_bg ?_
                refine T_tg ?_
                refine T_bg ?_
                refine T_tg ?_
                refine T_sg ?_
                refine wp_seq ?_
                refine wp_skip ?_
                refine T_tn ?_
                refine wp_seq ?_
                refine W_region ?_
                refine L (D_v (R_move rfl) ?_)
                refine L (D_v (R_assign rfl) ?_)
                refine L (D_v (R_assign rfl) ?_)
                refine S_nil ?_
                refine T_tn ?_
                refine wp_ret ?_
                refine T_sr ?_
                refine ret2 (v := i64 _) (v2 := i64 _) rfl rfl rfl ⟨?_, hE⟩
                first | (rw [hz.symm]; done) | (rw [hz.symm]; rfl) | (rw [hz.symm]; rw [take0]; rfl) | (rw [hz.symm]; rw [take0])
              ·
                exfalso; rw [take0] at c7; simp at c7; exact he c7
          ·
            obtain rfl : k = 0 := by have e := of_decide_eq_false c5; omega
            have hz : (gu, (0 : Int)) = chk keys b := by rw [hS, ← hch]; rfl
            refine wp_exit ?_
            refine T_te ?_
            refine T_te ?_
            refine T_be ?_
            refine T_tn ?_
            refine wp_seq ?_
            refine wp_seq ?_
            refine W_region ?_
            refine L (D_v (R_move q6) ?_)
            refine L (D_v (R_assign rfl) ?_)
            refine L (D_v (R_assign rfl) ?_)
            refine S_nil ?_
            refine T_tn ?_
            refine wp_ret ?_
            refine T_tr ?_
            refine T_sr ?_
            refine ret2 (v := i64 _) (v2 := i64 _) rfl rfl rfl ⟨?_, hE⟩
            first | (rw [hz.symm]; done) | (rw [hz.symm]; rfl) | (rw [hz.symm]; rw [take0]; rfl) | (rw [hz.symm]; rw [take0])

-- forkledger/forkledgerref6.Check
set_option maxRecDepth 4000 in
set_option maxHeartbeats 8000000 in
theorem c46 (vk : Value) (keys : List Nm) (v : Value) (b : List UInt8) (w : World) (hk : Ls cN w.heap.size w vk keys) (h : Bs w v b) : Calls Try.prog 46 [vk, v].toArray w (Ret w (.tuple #[i64 (chk keys b).1, i64 (chk keys b).2])) := by
  refine enter Try.func46 Try.ntmps46 rfl rfl ?_
  have hE := Ext.refl w
  have hbb := h.le
  have hb0 := (b.getD 0 0).toNat_lt
  refine wp_seq ?_
  refine W_region ?_
  refine L (D_v (R_assign rfl) ?_)
  refine L (D_v (R_assign rfl) ?_)
  refine S_nil ?_
  refine T_tn ?_
  refine wp_seq ?_
  refine wp_seq ?_
  refine W_region ?_
  refine L (D_v (R_move rfl) ?_)
  refine L (D_v (R_len Try.underlying31 rfl (h.ext hE)) ?_)
  refine L (D_v (R_eqlI rfl rfl) ?_)
  refine S_nil ?_
  refine T_tn ?_
  refine W_if rfl (fun c1 => ?_) (fun c1 => ?_)
  ·
    have h0 : b.length = 0 := by simpa using c1
    refine wp_seq ?_
    refine W_region ?_
    refine L (D_v (R_assign rfl) ?_)
    refine L (D_v (R_assign rfl) ?_)
    refine S_nil ?_
    refine T_tn ?_
    refine wp_ret ?_
    refine T_tr ?_
    refine ret2 (v := i64 _) (v2 := i64 _) rfl rfl rfl ⟨?_, hE⟩
    first | (rw [chk_0 h0]; done) | (rw [chk_0 h0]; rfl) | (rw [chk_0 h0]; rw [take0]; rfl) | (rw [chk_0 h0]; rw [take0])
  ·
    have h0 : b.length ≠ 0 := by simpa using c1
    refine wp_skip ?_
    refine T_tn ?_
    refine wp_seq ?_
    refine W_region ?_
    refine L (D_v (R_move rfl) ?_)
    refine L (D_v (R_elAddr (i := 0) Try.underlying31 Try.sizeOf5 rfl rfl (h.ext hE) (by (try simp only [List.length_take, List.length_drop, List.length_append, List.length_cons, List.length_nil, List.length_replicate, List.length_set, Nm.b_len, be2_len]); omega)) ?_)
    refine L (D_v (R_loadEl (u := u8 (((b).getD 0 0))) Try.isAgg5 rfl (h.ext hE) (bl_get (by (try simp only [List.length_take, List.length_drop, List.length_append, List.length_cons, List.length_nil, List.length_replicate, List.length_set, Nm.b_len, be2_len]); omega))) ?_)
    refine L (D_v (R_convU (b := ((b).getD 0 0)) Try.runUnderlying3 (by decide) rfl) ?_)
    refine L (D_v (R_assign rfl) ?_)
    refine S_nil ?_
    refine T_tn ?_
    refine wp_seq ?_
    refine wp_seq ?_
    refine W_region ?_
    refine L (D_v (R_move rfl) ?_)
    refine L (D_v (R_eqlI rfl rfl) ?_)
    refine L (D_v (R_move rfl) ?_)
    refine L (D_g1 rfl rfl (fun hb => R_move rfl) ?_)
    refine L (D_g1 rfl rfl (fun hb => R_gtrI (cgE hb) rfl) ?_)
    refine L (D_v (R_pickO rfl rfl rfl) ?_)
    refine S_nil ?_
    refine T_tn ?_
    refine W_if rfl (fun c2 => ?_) (fun c2 => ?_)
    ·
      have h1 : ((b.getD 0 0).toNat = 0 ∨ 10 < (b.getD 0 0).toNat) := by have e := c2; simp only [Bool.or_eq_true, beq_iff_eq, decide_eq_true_eq] at e; omega
      refine wp_seq ?_
      refine W_region ?_
      refine L (D_v (R_assign rfl) ?_)
      refine L (D_v (R_assign rfl) ?_)
      refine S_nil ?_
      refine T_tn ?_
      refine wp_ret ?_
      refine T_tr ?_
      refine ret2 (v := i64 _) (v2 := i64 _) rfl rfl rfl ⟨?_, hE⟩
      first | (rw [chk_4 h0 h1]; done) | (rw [chk_4 h0 h1]; rfl) | (rw [chk_4 h0 h1]; rw [take0]; rfl) | (rw [chk_4 h0 h1]; rw [take0])
    ·
      have h1 : ¬ ((b.getD 0 0).toNat = 0 ∨ 10 < (b.getD 0 0).toNat) := by have e := c2; simp only [Bool.or_eq_false_iff, beq_eq_false_iff_ne, ne_eq, decide_eq_false_iff_not] at e; omega
      refine wp_skip ?_
      refine T_tn ?_
      refine wp_seq ?_
      refine wp_seq ?_
      refine W_region ?_
      refine L (D_v (R_move rfl) ?_)
      refine L (D_v (R_len Try.underlying31 rfl (h.ext hE)) ?_)
      refine L (D_v (R_move rfl) ?_)
      refine L (D_v (R_mulN (m := 786) (j := (((b).getD 0 0)).toNat) rfl rfl (by (try simp only [List.length_take, List.length_drop, List.length_append, List.length_cons, List.length_nil, List.length_replicate, List.length_set, Nm.b_len, be2_len]); omega)) ?_)
      refine L (D_v (R_addN (m := 1) (j := (786 * (((b).getD 0 0)).toNat)) rfl rfl (by (try simp only [List.length_take, List.length_drop, List.length_append, List.length_cons, List.length_nil, List.length_replicate, List.length_set, Nm.b_len, be2_len]); omega)) ?_)
      refine L (D_v (R_lssI rfl rfl) ?_)
      refine S_nil ?_
      refine T_tn ?_
      refine W_if rfl (fun c3 => ?_) (fun c3 => ?_)
      ·
        have h2 := of_decide_eq_true c3
        refine wp_seq ?_
        refine W_region ?_
        refine L (D_v (R_assign rfl) ?_)
        refine L (D_v (R_assign rfl) ?_)
        refine S_nil ?_
        refine T_tn ?_
        refine wp_ret ?_
        refine T_tr ?_
        refine ret2 (v := i64 _) (v2 := i64 _) rfl rfl rfl ⟨?_, hE⟩
        first | (rw [chk_2 h0 h1 (by omega)]; done) | (rw [chk_2 h0 h1 (by omega)]; rfl) | (rw [chk_2 h0 h1 (by omega)]; rw [take0]; rfl) | (rw [chk_2 h0 h1 (by omega)]; rw [take0])
      ·
        have h2 := of_decide_eq_false c3
        refine wp_skip ?_
        refine T_tn ?_
        refine wp_seq ?_
        refine wp_seq ?_
        refine W_region ?_
        refine L (D_v (R_move rfl) ?_)
        refine L (D_v (R_len Try.underlying31 rfl (h.ext hE)) ?_)
        refine L (D_v (R_move rfl) ?_)
        refine L (D_v (R_mulN (m := 786) (j := (((b).getD 0 0)).toNat) rfl rfl (by (try simp only [List.length_take, List.length_drop, List.length_append, List.length_cons, List.length_nil, List.length_replicate, List.length_set, Nm.b_len, be2_len]); omega)) ?_)
        refine L (D_v (R_addN (m := 1) (j := (786 * (((b).getD 0 0)).toNat)) rfl rfl (by (try simp only [List.length_take, List.length_drop, List.length_append, List.length_cons, List.length_nil, List.length_replicate, List.length_set, Nm.b_len, be2_len]); omega)) ?_)
        refine L (D_v (R_gtrI rfl rfl) ?_)
        refine S_nil ?_
        refine T_tn ?_
        refine W_if rfl (fun c4 => ?_) (fun c4 => ?_)
        ·
          have h3 := of_decide_eq_true c4
          refine wp_seq ?_
          refine W_region ?_
          refine L (D_v (R_assign rfl) ?_)
          refine L (D_v (R_assign rfl) ?_)
          refine S_nil ?_
          refine T_tn ?_
          refine wp_ret ?_
          refine T_tr ?_
          refine ret2 (v := i64 _) (v2 := i64 _) rfl rfl rfl ⟨?_, hE⟩
          first | (rw [chk_3 h0 h1 (by omega)]; done) | (rw [chk_3 h0 h1 (by omega)]; rfl) | (rw [chk_3 h0 h1 (by omega)]; rw [take0]; rfl) | (rw [chk_3 h0 h1 (by omega)]; rw [take0])
        ·
          have h3 := of_decide_eq_false c4
          have hS := chk_S (keys := keys) h0 h1 (by omega)
          have hbl : b.length = 1 + 786 * (b.getD 0 0).toNat := by omega
          refine wp_skip ?_
          refine T_tn ?_
          refine wp_seq ?_
          refine W_region ?_
          refine L (D_v (R_assign rfl) ?_)
          refine L (D_v (R_assign rfl) ?_)
          refine S_nil ?_
          refine T_tn ?_
          refine wp_seq ?_
          refine wp_seq ?_
          refine W_region ?_
          refine L (D_v (R_assign rfl) ?_)
          refine S_nil ?_
          refine T_tn ?_
          refine wp_block ?_
          refine W_loop (fun mz g W => ∃ (i : Nat) (p : Int) (gu : Int), mz = 11 - i ∧ g 0 = vk ∧ g 1 = v ∧ g 6 = i64 (((b).getD 0 0).toNat : Int) ∧ g 7 = i64 gu ∧ g 8 = i64 p ∧ g 9 = i64 ((i : Nat) : Int) ∧ Ext w W ∧ i ≤ (b.getD 0 0).toNat ∧ chkS keys ((b.getD 0 0).toNat - i) (b.drop (1 + 786 * i)) p gu = chkS keys (b.getD 0 0).toNat (b.drop 1) (-1) 0) ⟨0, (-1), 0, rfl, rfl, rfl, rfl, rfl, rfl, rfl, hE, (Nat.zero_le _), rfl⟩ ?_
          rintro mz f9 w9l ⟨i, p, gu, hm, q0, q1, q6, q7, q8, q9, hE, hi, hch⟩
          refine wp_seq ?_
          refine wp_seq ?_
          refine W_region ?_
          refine L (D_v (R_move q9) ?_)
          refine L (D_v (R_move q6) ?_)
          refine L (D_v (R_lssI rfl rfl) ?_)
          refine S_nil ?_
          refine T_tn ?_
          refine W_if rfl (fun c5 => ?_) (fun c5 => ?_)
          ·
            have hk1 : i < (b.getD 0 0).toNat := by have e := of_decide_eq_true c5; omega
            obtain ⟨k, hkk⟩ : ∃ k2, (b.getD 0 0).toNat - i = k2 + 1 := ⟨(b.getD 0 0).toNat - i - 1, by omega⟩
            rw [hkk] at hch
            have hT : ((b.drop (1 + 786 * i)).take ((787 + 786 * i) - (1 + 786 * i))) = (b.drop (1 + 786 * i)).take 786 := by congr 1; omega
            refine wp_skip ?_
            refine T_tn ?_
            refine wp_seq ?_
            refine wp_block ?_
            refine wp_seq ?_
            refine W_region ?_
            refine L (D_v (R_move q1) ?_)
            refine L (D_v (R_move q9) ?_)
            refine L (D_v (R_mulN (m := 786) (j := i) rfl rfl (by (try simp only [List.length_take, List.length_drop, List.length_append, List.length_cons, List.length_nil, List.length_replicate, List.length_set, Nm.b_len, be2_len]); omega)) ?_)
            refine L (D_v (R_addN (m := 1) (j := (786 * i)) rfl rfl (by (try simp only [List.length_take, List.length_drop, List.length_append, List.length_cons, List.length_nil, List.length_replicate, List.length_set, Nm.b_len, be2_len]); omega)) ?_)
            refine L (D_v (R_move q9) ?_)
            refine L (D_v (R_mulN (m := 786) (j := i) rfl rfl (by (try simp only [List.length_take, List.length_drop, List.length_append, List.length_cons, List.length_nil, List.length_replicate, List.length_set, Nm.b_len, be2_len]); omega)) ?_)
            refine L (D_v (R_addN (m := 787) (j := (786 * i)) rfl rfl (by (try simp only [List.length_take, List.length_drop, List.length_append, List.length_cons, List.length_nil, List.length_replicate, List.length_set, Nm.b_len, be2_len]); omega)) ?_)
            refine L (D_v (R_sliceLH (i := (1 + (786 * i))) (j := (787 + (786 * i))) Try.underlying31 Try.sizeOf5 rfl rfl rfl (h.ext hE) (by (try simp only [List.length_take, List.length_drop, List.length_append, List.length_cons, List.length_nil, List.length_replicate, List.length_set, Nm.b_len, be2_len]); omega) (by (try simp only [List.length_take, List.length_drop, List.length_append, List.length_cons, List.length_nil, List.length_replicate, List.length_set, Nm.b_len, be2_len]); omega)) ?_)
            refine L (D_callE (R_callF Try.call49 rfl rfl) (c49 (cutV v 1 ((1 + (786 * i))) ((787 + (786 * i)))) ((((b).drop ((1 + (786 * i)))).take ((787 + (786 * i)) - (1 + (786 * i))))) _ ((h.ext hE).cut (by (try simp only [List.length_take, List.length_drop, List.length_append, List.length_cons, List.length_nil, List.length_replicate, List.length_set, Nm.b_len, be2_len]); omega) (by (try simp only [List.length_take, List.length_drop, List.length_append, List.length_cons, List.length_nil, List.length_replicate, List.length_set, Nm.b_len, be2_len]); omega))) (fun v11_8 w11_8 e11_8 p11_8 => ?_))
            obtain ⟨x11_8, rfl, p11_8a, k11_8⟩ := p11_8
            replace hE := hE.trans e11_8
            refine L (D_v (R_move rfl) ?_)
            refine L (D_v (R_extract rfl rfl) ?_)
            refine L (D_v (R_extract rfl rfl) ?_)
            refine L (D_alloc (c := (Ev.zero).l) Try.zeroValue55 rfl (fun aB11_12 w11_12 e11_12 gB11_12 hB11_12 => ?_))
            have lB11_12 := Nat.le_trans hE.size gB11_12
            replace hE := hE.trans e11_12
            replace k11_8 := k11_8.fb (Fb.ext e11_12)
            have h0 := hB11_12
            refine L (D_storeA Try.sizeOf55 hB11_12 rfl rfl rfl rfl rfl (l' := (x11_8).l) rfl (fun w11_13 k11_13 hB11_12 => ?_))
            have f11_13 := Fb.kp k11_13 (Nat.le_trans (Nat.le_refl _) lB11_12) (Blk.notB h0 rfl)
            replace hE := hE.kp k11_13 lB11_12
            replace k11_8 := k11_8.fb (Fb.kp k11_13 (Nat.zero_le _) (Blk.notB h0 rfl))
            refine L (D_v (R_assign rfl) ?_)
            refine S_nil ?_
            refine T_tn ?_
            refine wp_seq ?_
            refine wp_seq ?_
            refine W_region ?_
            refine L (D_v (R_move rfl) ?_)
            refine L (D_v (R_neqI rfl rfl) ?_)
            refine S_nil ?_
            refine T_tn ?_
            refine W_if rfl (fun c6 => ?_) (fun c6 => ?_)
            ·
              rw [hT] at p11_8a c6
              have he : (decE ((b.drop (1 + 786 * i)).take 786)).2 ≠ 0 := by simpa using c6
              have hz : (0, (decE ((b.drop (1 + 786 * i)).take 786)).2) = chk keys b := by rw [hS, ← hch, chkS_bad he]
              rw [← hT] at hz
              refine wp_seq ?_
              refine W_region ?_
              refine L (D_v (R_move rfl) ?_)
              refine L (D_v (R_assign rfl) ?_)
              refine L (D_v (R_assign rfl) ?_)
              refine S_nil ?_
              refine T_tn ?_
              refine wp_ret ?_
              refine T_tr ?_
              refine T_br ?_
              refine T_tr ?_
              refine T_tr ?_
              refine T_br ?_
              refine T_tr ?_
              refine ret2 (v := i64 _) (v2 := i64 _) rfl rfl rfl ⟨?_, hE⟩
              first | (rw [hz.symm]; done) | (rw [hz.symm]; rfl) | (rw [hz.symm]; rw [take0]; rfl) | (rw [hz.symm]; rw [take0])
            ·
              rw [hT] at p11_8a c6
              have he : (decE ((b.drop (1 + 786 * i)).take 786)).2 = 0 := by simpa using c6
              refine wp_skip ?_
              refine T_tn ?_
              refine wp_seq ?_
              refine W_cut (R := fun g W => ∃ (aB13_6 : Nat) (aB13_7 : Nat), (g 0 = vk) ∧ (g 1 = v) ∧ (g 6 = i64 (((b).getD 0 0).toNat : Int)) ∧ (g 7 = i64 gu) ∧ (g 8 = i64 p) ∧ (g 9 = i64 ((i : Nat) : Int)) ∧ (g 10 = .pointer (some ⟨aB11_12, 0, none⟩)) ∧ (g 12 = .pointer (some ⟨aB13_6, 0, none⟩)) ∧ (g 13 = .pointer (some ⟨aB13_7, 0, none⟩)) ∧ Ext w W ∧ Blk W aB11_12 (x11_8).l 55 ∧ Blk W aB13_6 ((x11_8).a.vote).l 26 ∧ Blk W aB13_7 ((x11_8).b.vote).l 26 ∧ w.heap.size ≤ aB13_6 ∧ w.heap.size ≤ aB13_7 ∧ aB11_12 ≠ aB13_6 ∧ aB11_12 ≠ aB13_7 ∧ aB13_6 ≠ aB13_7 ∧ Ev.okf 0 W x11_8) ?_ ?_
              ·
                refine W_held (fun W => Ext w W ∧ Blk W aB11_12 (x11_8).l 55 ∧ Ev.okf 0 W x11_8 ∧ True) mixed (fun w13_99 e13_99 => ?_)
                replace hE := hE.trans e13_99
                replace hB11_12 := hB11_12.ext e13_99
                replace k11_8 := k11_8.fb (Fb.ext e13_99)
                refine H_take (i := 0) rfl (by kernel_rfl) (by kernel_rfl) (by kernel_rfl) rfl pq_cut ⟨hE, hB11_12, k11_8, trivial⟩ rfl (fun w hw => R_fieldAddr Try.runUnderlying55 rfl Try.sizeOf53 rfl) ?_
                refine H_take (i := 1) rfl (by kernel_rfl) (by kernel_rfl) (by kernel_rfl) rfl pq_cut ⟨hE, hB11_12, k11_8, trivial⟩ rfl (fun w hw => R_fieldAddr Try.runUnderlying53 rfl Try.sizeOf26 rfl) ?_
                refine H_take (i := 2) rfl (by kernel_rfl) (by kernel_rfl) (by kernel_rfl) rfl pq_cut ⟨hE, hB11_12, k11_8, trivial⟩ rfl (fun w hw => R_loadA (c := ((x11_8).a.vote).l) Try.isAgg26 Try.sizeOf26 hw.2.1 rfl rfl rfl) ?_
                refine H_take (i := 3) rfl (by kernel_rfl) (by kernel_rfl) (by kernel_rfl) rfl pq_cut ⟨hE, hB11_12, k11_8, trivial⟩ rfl (fun w hw => R_fieldAddr Try.runUnderlying55 rfl Try.sizeOf53 rfl) ?_
                refine H_take (i := 4) rfl (by kernel_rfl) (by kernel_rfl) (by kernel_rfl) rfl pq_cut ⟨hE, hB11_12, k11_8, trivial⟩ rfl (fun w hw => R_fieldAddr Try.runUnderlying53 rfl Try.sizeOf26 rfl) ?_
                refine H_take (i := 5) rfl (by kernel_rfl) (by kernel_rfl) (by kernel_rfl) rfl pq_cut ⟨hE, hB11_12, k11_8, trivial⟩ rfl (fun w hw => R_loadA (c := ((x11_8).b.vote).l) Try.isAgg26 Try.sizeOf26 hw.2.1 rfl rfl rfl) ?_
                refine H_op2 (i := 6) (i2 := 7) (by kernel_rfl) rfl rfl rfl rfl ?_ ?_
                ·
                  refine D_alloc (c := (Vt.zero).l) Try.zeroValue26 rfl (fun aB13_6 w13_6 e13_6 gB13_6 hB13_6 => ?_)
                  have lB13_6 := Nat.le_trans hE.size gB13_6
                  have nB11_12B13_6 := hB11_12.ne gB13_6
                  replace hE := hE.trans e13_6
                  replace hB11_12 := hB11_12.ext e13_6
                  replace k11_8 := k11_8.fb (Fb.ext e13_6)
                  refine ⟨⟨hE, hB11_12, k11_8, trivial⟩, ?_⟩
                  refine H_op (i := 7) (by kernel_rfl) rfl rfl (D_alloc (c := (Vt.zero).l) Try.zeroValue26 rfl (fun aB13_7 w13_7 e13_7 gB13_7 hB13_7 => ?_))
                  have lB13_7 := Nat.le_trans hE.size gB13_7
                  have nB11_12B13_7 := hB11_12.ne gB13_7
                  have nB13_6B13_7 := hB13_6.ne gB13_7
                  replace hE := hE.trans e13_7
                  replace hB11_12 := hB11_12.ext e13_7
                  replace hB13_6 := hB13_6.ext e13_7
                  replace k11_8 := k11_8.fb (Fb.ext e13_7)
                  refine ⟨⟨hE, hB11_12, k11_8, trivial⟩, ?_⟩
                  have h0 := hB13_6
                  refine H_op (i := 8) (by kernel_rfl) rfl rfl (D_storeA Try.sizeOf26 hB13_6 rfl rfl rfl rfl rfl (l' := ((x11_8).a.vote).l) rfl (fun w13_8 k13_8 hB13_6 => ?_))
                  have f13_8 := Fb.kp k13_8 (Nat.le_trans (Nat.le_refl _) lB13_6) (Blk.notB h0 rfl)
                  replace hE := hE.kp k13_8 lB13_6
                  replace hB11_12 := hB11_12.kp k13_8 nB11_12B13_6
                  replace hB13_7 := hB13_7.kp k13_8 nB13_6B13_7.symm
                  replace k11_8 := k11_8.fb (Fb.kp k13_8 (Nat.zero_le _) (Blk.notB h0 rfl))
                  refine ⟨⟨hE, hB11_12, k11_8, trivial⟩, ?_⟩
                  have h0 := hB13_7
                  refine H_op (i := 9) (by kernel_rfl) rfl rfl (D_storeA Try.sizeOf26 hB13_7 rfl rfl rfl rfl rfl (l' := ((x11_8).b.vote).l) rfl (fun w13_9 k13_9 hB13_7 => ?_))
                  have f13_9 := Fb.kp k13_9 (Nat.le_trans (Nat.le_refl _) lB13_7) (Blk.notB h0 rfl)
                  replace hE := hE.kp k13_9 lB13_7
                  replace hB11_12 := hB11_12.kp k13_9 nB11_12B13_7
                  replace hB13_6 := hB13_6.kp k13_9 nB13_6B13_7
                  replace k11_8 := k11_8.fb (Fb.kp k13_9 (Nat.zero_le _) (Blk.notB h0 rfl))
                  refine ⟨⟨hE, hB11_12, k11_8, trivial⟩, ?_⟩
                  refine H_done (by kernel_rfl) ?_
                  exact ⟨rfl, _, rfl, _, _, q0, q1, q6, q7, q8, q9, rfl, rfl, rfl, hE, hB11_12, hB13_6, hB13_7, lB13_6, lB13_7, nB11_12B13_6, nB11_12B13_7, nB13_6B13_7, k11_8⟩
                ·
                  refine D_alloc (c := (Vt.zero).l) Try.zeroValue26 rfl (fun aB13_7 w13_7 e13_7 gB13_7 hB13_7 => ?_)
                  have lB13_7 := Nat.le_trans hE.size gB13_7
                  have nB11_12B13_7 := hB11_12.ne gB13_7
                  replace hE := hE.trans e13_7
                  replace hB11_12 := hB11_12.ext e13_7
                  replace k11_8 := k11_8.fb (Fb.ext e13_7)
                  refine ⟨⟨hE, hB11_12, k11_8, trivial⟩, ?_⟩
                  refine H_op (i := 6) (by kernel_rfl) rfl rfl (D_alloc (c := (Vt.zero).l) Try.zeroValue26 rfl (fun aB13_6 w13_6 e13_6 gB13_6 hB13_6 => ?_))
                  have lB13_6 := Nat.le_trans hE.size gB13_6
                  have nB11_12B13_6 := hB11_12.ne gB13_6
                  have nB13_7B13_6 := hB13_7.ne gB13_6
                  replace hE := hE.trans e13_6
                  replace hB11_12 := hB11_12.ext e13_6
                  replace hB13_7 := hB13_7.ext e13_6
                  replace k11_8 := k11_8.fb (Fb.ext e13_6)
                  refine ⟨⟨hE, hB11_12, k11_8, trivial⟩, ?_⟩
                  have h0 := hB13_6
                  refine H_op (i := 8) (by kernel_rfl) rfl rfl (D_storeA Try.sizeOf26 hB13_6 rfl rfl rfl rfl rfl (l' := ((x11_8).a.vote).l) rfl (fun w13_8 k13_8 hB13_6 => ?_))
                  have f13_8 := Fb.kp k13_8 (Nat.le_trans (Nat.le_refl _) lB13_6) (Blk.notB h0 rfl)
                  replace hE := hE.kp k13_8 lB13_6
                  replace hB11_12 := hB11_12.kp k13_8 nB11_12B13_6
                  replace hB13_7 := hB13_7.kp k13_8 nB13_7B13_6
                  replace k11_8 := k11_8.fb (Fb.kp k13_8 (Nat.zero_le _) (Blk.notB h0 rfl))
                  refine ⟨⟨hE, hB11_12, k11_8, trivial⟩, ?_⟩
                  have h0 := hB13_7
                  refine H_op (i := 9) (by kernel_rfl) rfl rfl (D_storeA Try.sizeOf26 hB13_7 rfl rfl rfl rfl rfl (l' := ((x11_8).b.vote).l) rfl (fun w13_9 k13_9 hB13_7 => ?_))
                  have f13_9 := Fb.kp k13_9 (Nat.le_trans (Nat.le_refl _) lB13_7) (Blk.notB h0 rfl)
                  replace hE := hE.kp k13_9 lB13_7
                  replace hB11_12 := hB11_12.kp k13_9 nB11_12B13_7
                  replace hB13_6 := hB13_6.kp k13_9 nB13_7B13_6.symm
                  replace k11_8 := k11_8.fb (Fb.kp k13_9 (Nat.zero_le _) (Blk.notB h0 rfl))
                  refine ⟨⟨hE, hB11_12, k11_8, trivial⟩, ?_⟩
                  refine H_done (by kernel_rfl) ?_
                  exact ⟨rfl, _, rfl, _, _, q0, q1, q6, q7, q8, q9, rfl, rfl, rfl, hE, hB11_12, hB13_6, hB13_7, lB13_6, lB13_7, nB11_12B13_6, nB11_12B13_7, nB13_7B13_6.symm, k11_8⟩
              rintro f13 w13c ⟨aB13_6, aB13_7, q0, q1, q6, q7, q8, q9, q10, q12, q13, hE, hB11_12, hB13_6, hB13_7, lB13_6, lB13_7, nB11_12B13_6, nB11_12B13_7, nB13_6B13_7, k11_8⟩
              refine T_tn ?_
              refine wp_seq ?_
              refine wp_seq ?_
              refine W_region ?_
              refine L (D_v (R_loadA (c := ((x11_8).a.vote).l) Try.isAgg26 Try.sizeOf26 hB13_6 q12 rfl rfl) ?_)
              refine L (D_v (R_loadA (c := ((x11_8).b.vote).l) Try.isAgg26 Try.sizeOf26 hB13_7 q13 rfl rfl) ?_)
              refine L (D_call (R_callF Try.call32 rfl rfl) (c32 ((x11_8).a.vote) ((x11_8).b.vote) _ ) (fun w14_2 e14_2 => ?_))
              replace hE := hE.trans e14_2
              replace hB11_12 := hB11_12.ext e14_2
              replace hB13_6 := hB13_6.ext e14_2
              replace hB13_7 := hB13_7.ext e14_2
              replace k11_8 := k11_8.fb (Fb.ext e14_2)
              refine L (D_v (R_not rfl) ?_)
              refine L (D_v (R_move rfl) ?_)
              refine L (D_g1 rfl rfl (fun hb => R_loadA (c := ((x11_8).a.vote).l) Try.isAgg26 Try.sizeOf26 hB13_6 q12 rfl rfl) ?_)
              refine L (D_g1 rfl rfl (fun hb => R_loadA (c := ((x11_8).b.vote).l) Try.isAgg26 Try.sizeOf26 hB13_7 q13 rfl rfl) ?_)
              refine L (D_gc1 rfl rfl (fun hb => R_callF Try.call34 (mapv2 (cgE hb) (cgE hb)) rfl) (fun hb => c34 ((x11_8).a.vote) ((x11_8).b.vote) _ ) (fun w14_7 e14_7 => ?_))
              replace hE := hE.trans e14_7
              replace hB11_12 := hB11_12.ext e14_7
              replace hB13_6 := hB13_6.ext e14_7
              replace hB13_7 := hB13_7.ext e14_7
              replace k11_8 := k11_8.fb (Fb.ext e14_7)
              refine L (D_g1 rfl rfl (fun hb => R_not (cgE hb)) ?_)
              refine L (D_v (R_pickO rfl rfl rfl) ?_)
              refine S_nil ?_
              refine T_tn ?_
              refine W_if rfl (fun c7 => ?_) (fun c7 => ?_)
              ·
                have h9 : (!(conflict (x11_8).p.1.1 (x11_8).p.2.1) || !(lessV (x11_8).p.1.1 (x11_8).p.2.1)) = true := c7
                have hz : (0, (9 : Int)) = chk keys b := by rw [hS, ← hch, chkS_flt he (by rw [← p11_8a, flt_9 h9]; decide), ← p11_8a, flt_9 h9]
                refine wp_seq ?_
                refine W_region ?_
                refine L (D_v (R_assign rfl) ?_)
                refine L (D_v (R_assign rfl) ?_)
                refine S_nil ?_
                refine T_tn ?_
                refine wp_ret ?_
                refine T_tr ?_
                refine T_br ?_
                refine T_tr ?_
                refine T_tr ?_
                refine T_br ?_
                refine T_tr ?_
                refine ret2 (v := i64 _) (v2 := i64 _) rfl rfl rfl ⟨?_, hE⟩
                first | (rw [hz.symm]; done) | (rw [hz.symm]; rfl) | (rw [hz.symm]; rw [take0]; rfl) | (rw [hz.symm]; rw [take0])
              ·
                have h9 : (!(conflict (x11_8).p.1.1 (x11_8).p.2.1) || !(lessV (x11_8).p.1.1 (x11_8).p.2.1)) = false := c7
                refine wp_skip ?_
                refine T_tn ?_
                refine wp_seq ?_
                refine wp_seq ?_
                refine W_region ?_
                refine L (D_v (R_fieldAddr Try.runUnderlying26 rfl Try.sizeOf3 q12) ?_)
                refine L (D_v (R_load Try.isAgg3 hB13_6 rfl rfl) ?_)
                refine L (D_v (R_move q8) ?_)
                refine L (D_v (R_leqI rfl rfl) ?_)
                refine S_nil ?_
                refine T_tn ?_
                refine W_if rfl (fun c8 => ?_) (fun c8 => ?_)
                ·
                  have h10 :  (x11_8).p.1.1.signer ≤ p := of_decide_eq_true c8
                  have hz : (0, (10 : Int)) = chk keys b := by rw [hS, ← hch, chkS_flt he (by rw [← p11_8a, flt_10 h9 h10]; decide), ← p11_8a, flt_10 h9 h10]
                  refine wp_seq ?_
                  refine W_region ?_
                  refine L (D_v (R_assign rfl) ?_)
                  refine L (D_v (R_assign rfl) ?_)
                  refine S_nil ?_
                  refine T_tn ?_
                  refine wp_ret ?_
                  refine T_tr ?_
                  refine T_br ?_
                  refine T_tr ?_
                  refine T_tr ?_
                  refine T_br ?_
                  refine T_tr ?_
                  refine ret2 (v := i64 _) (v2 := i64 _) rfl rfl rfl ⟨?_, hE⟩
                  first | (rw [hz.symm]; done) | (rw [hz.symm]; rfl) | (rw [hz.symm]; rw [take0]; rfl) | (rw [hz.symm]; rw [take0])
                ·
                  have h10 : ¬ (x11_8).p.1.1.signer ≤ p := of_decide_eq_false c8
                  refine wp_skip ?_
                  refine T_tn ?_
                  refine wp_seq ?_
                  refine wp_seq ?_
                  refine W_region ?_
                  refine L (D_v (R_move q0) ?_)
                  refine L (D_v (R_fieldAddr Try.runUnderlying55 rfl Try.sizeOf53 q10) ?_)
                  refine L (D_v (R_loadA (c := ((x11_8).a).l) Try.isAgg53 Try.sizeOf53 hB11_12 rfl rfl rfl) ?_)
                  refine L (D_call (R_callF Try.call91 rfl rfl) (c91 vk (keys) ((x11_8).a) _ ((hk.ext hE).lev fun _ _ _ => trivial) (((k11_8.up (Nat.zero_le _)).1).up (Nat.le_trans (Nat.le_refl _) hE.size))) (fun w16_3 e16_3 => ?_))
                  replace hE := hE.trans e16_3
                  replace hB11_12 := hB11_12.ext e16_3
                  replace hB13_6 := hB13_6.ext e16_3
                  replace k11_8 := k11_8.fb (Fb.ext e16_3)
                  refine L (D_v (R_not rfl) ?_)
                  refine L (D_v (R_move rfl) ?_)
                  refine L (D_g1 rfl rfl (fun hb => R_move q0) ?_)
                  refine L (D_g1 rfl rfl (fun hb => R_fieldAddr Try.runUnderlying55 rfl Try.sizeOf53 q10) ?_)
                  refine L (D_g1 rfl rfl (fun hb => R_loadA (c := ((x11_8).b).l) Try.isAgg53 Try.sizeOf53 hB11_12 (cgE hb) rfl rfl) ?_)
                  refine L (D_gc1 rfl rfl (fun hb => R_callF Try.call91 (mapv2 (cgE hb) (cgE hb)) rfl) (fun hb => c91 vk (keys) ((x11_8).b) _ ((hk.ext hE).lev fun _ _ _ => trivial) (((k11_8.up (Nat.zero_le _)).2).up (Nat.le_trans (Nat.le_refl _) hE.size))) (fun w16_9 e16_9 => ?_))
                  replace hE := hE.trans e16_9
                  replace hB11_12 := hB11_12.ext e16_9
                  replace hB13_6 := hB13_6.ext e16_9
                  replace k11_8 := k11_8.fb (Fb.ext e16_9)
                  refine L (D_g1 rfl rfl (fun hb => R_not (cgE hb)) ?_)
                  refine L (D_v (R_pickO rfl rfl rfl) ?_)
                  refine S_nil ?_
                  refine T_tn ?_
                  refine W_if rfl (fun c9 => ?_) (fun c9 => ?_)
                  ·
                    have hv := (ver_ref (keys := keys) (e := (x11_8).p) h9).symm.trans c9
                    have hz : (0, (8 : Int)) = chk keys b := by rw [hS, ← hch, chkS_flt he (by rw [← p11_8a, flt_8 h9 h10 hv]; decide), ← p11_8a, flt_8 h9 h10 hv]
                    refine wp_seq ?_
                    refine W_region ?_
                    refine L (D_v (R_assign rfl) ?_)
                    refine L (D_v (R_assign rfl) ?_)
                    refine S_nil ?_
                    refine T_tn ?_
                    refine wp_ret ?_
                    refine T_tr ?_
                    refine T_br ?_
                    refine T_tr ?_
                    refine T_tr ?_
                    refine T_br ?_
                    refine T_tr ?_
                    refine ret2 (v := i64 _) (v2 := i64 _) rfl rfl rfl ⟨?_, hE⟩
                    first | (rw [hz.symm]; done) | (rw [hz.symm]; rfl) | (rw [hz.symm]; rw [take0]; rfl) | (rw [hz.symm]; rw [take0])
                  ·
                    have hv := (ver_ref (keys := keys) (e := (x11_8).p) h9).symm.trans c9
                    have hf := flt_0 h9 h10 hv
                    have hsg := flt_signer hf
                    have hbr : bitR (x11_8).a.vote.signer = bitI (x11_8).a.vote.signer := bitR_in hsg
                    rw [chkS_next he (by rw [← p11_8a]; exact hf), ← p11_8a, List.drop_drop] at hch
                    refine wp_skip ?_
                    refine T_tn ?_
                    refine W_draw mixed (by kernel_rfl) ?_
                    refine Q_v (fun w hw => R_move q7) ?_
                    refine Q_v (fun w hw => R_fieldAddr Try.runUnderlying26 rfl Try.sizeOf3 q12) ?_
                    refine Q_v (fun w hw => R_load Try.isAgg3 (hB13_6.ext hw) rfl rfl) ?_
                    refine Q_call (fun w hw => R_callF Try.call51 rfl rfl) (fun w hw => c51 (x11_8).a.vote.signer _) ?_
                    refine Q_v (fun w hw => R_orI rfl rfl) ?_
                    refine Q_v (fun w hw => R_fieldAddr Try.runUnderlying26 rfl Try.sizeOf3 q12) ?_
                    refine Q_v (fun w hw => R_load Try.isAgg3 (hB13_6.ext hw) rfl rfl) ?_
                    refine Q_v (fun w hw => R_assign rfl) ?_
                    refine Q_v (fun w hw => R_assign rfl) ?_
                    refine Q_nil (fun w17_99 e17_99 => ?_)
                    replace hE := hE.trans e17_99
                    replace hB13_6 := hB13_6.ext e17_99
                    replace k11_8 := k11_8.fb (Fb.ext e17_99)
                    refine T_bn ?_
                    refine T_tn ?_
                    refine W_region ?_
                    refine L (D_v (R_move q9) ?_)
                    refine L (D_v (R_addN (m := i) (j := 1) rfl rfl (by (try simp only [List.length_take, List.length_drop, List.length_append, List.length_cons, List.length_nil, List.length_replicate, List.length_set, Nm.b_len, be2_len]); omega)) ?_)
                    refine L (D_v (R_assign rfl) ?_)
                    refine S_nil ?_
                    refine T_tn ?_
                    refine ⟨_, _, ?_, rfl, i + 1, _, _, rfl, q0, q1, q6, rfl, rfl, rfl, hE, ?_, ?_⟩
                    all_goals first | omega | (rw [show (b.getD 0 0).toNat - (i + 1) = k by omega, show 1 + 786 * (i + 1) = 1 + 786 * i + 786 by omega, hbr]; exact hch)
          ·
            have hk0 : (b.getD 0 0).toNat - i = 0 := by have e := of_decide_eq_false c5; omega
            rw [hk0] at hch
            have hz : (gu, (0 : Int)) = chk keys b := by rw [hS, ← hch]; rfl
            refine wp_exit ?_
            refine T_te ?_
            refine T_te ?_
            refine T_be ?_
            refine T_tn ?_
            refine wp_seq ?_
            refine W_region ?_
            refine L (D_v (R_move q7) ?_)
            refine L (D_v (R_assign rfl) ?_)
            refine L (D_v (R_assign rfl) ?_)
            refine S_nil ?_
            refine T_tn ?_
            refine wp_ret ?_
            refine ret2 (v := i64 _) (v2 := i64 _) rfl rfl rfl ⟨?_, hE⟩
            first | (rw [hz.symm]; done) | (rw [hz.symm]; rfl) | (rw [hz.symm]; rw [take0]; rfl) | (rw [hz.symm]; rw [take0])
end Go.Proofs.Yteeopgpgbdhmhaa
