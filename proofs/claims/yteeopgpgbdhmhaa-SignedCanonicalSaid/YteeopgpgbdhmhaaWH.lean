/- Walks of the functions on bytes: encoding of signed votes and evidence. No condition. Printed by wip/mkF.py. -/
import Derived.Test.YteeopgpgbdhmhaaSg
namespace Go.Proofs.Yteeopgpgbdhmhaa
open Go.RowKit
set_option linter.unusedVariables false
set_option linter.unusedSimpArgs false
attribute [local irreducible] wpList wpO H wpQuiet wpStill Code.wp Exit.then Exit.inBlock bodyPost Code.rounds Calls valid sameKey conflict lessV hless num between
-- forkledger/manytime.Size
set_option maxRecDepth 4000 in
set_option maxHeartbeats 1000000 in
theorem c101  (w : World) : Calls Try.prog 101 [i64 2].toArray w (Ret w (i64 370)) := by
  refine enter Try.func101 Try.ntmps101 rfl rfl ?_
  have hE := Ext.refl w
  refine wp_seq ?_
  refine W_region ?_
  refine L (D_v (R_assign rfl) ?_)
  refine S_nil ?_
  refine T_tn ?_
  refine wp_seq ?_
  refine W_region ?_
  refine L (D_v (R_assign rfl) ?_)
  refine S_nil ?_
  refine T_tn ?_
  refine wp_seq ?_
  refine wp_seq ?_
  refine W_region ?_
  refine L (D_v (R_move rfl) ?_)
  refine S_nil ?_
  refine T_tn ?_
  refine wp_block ?_
  refine wp_seq ?_
  refine wp_block ?_
  refine wp_seq ?_
  refine wp_block ?_
  refine wp_seq ?_
  refine wp_seq ?_
  refine wp_seq ?_
  refine W_region ?_
  refine L (D_v (R_cast (v' := .bool true) (R_eqlI rfl rfl) rfl) ?_)
  refine L (D_v (R_assign rfl) ?_)
  refine S_nil ?_
  refine T_tn ?_
  refine W_ift rfl ?_
  refine wp_exit ?_
  refine T_te ?_
  refine T_te ?_
  refine T_be ?_
  refine T_tn ?_
  refine W_region ?_
  refine L (D_v (R_move rfl) ?_)
  refine L (D_v (R_cast (v' := .int .i64 (184)) (R_addI rfl rfl) rfl) ?_)
  refine L (D_v (R_assign rfl) ?_)
  refine S_nil ?_
  refine T_bn ?_
  refine T_tn ?_
  refine wp_seq ?_
  refine W_region ?_
  refine L (D_v (R_move rfl) ?_)
  refine L (D_v (R_cast (v' := .int .i64 (370)) (R_addI rfl rfl) rfl) ?_)
  refine L (D_v (R_assign rfl) ?_)
  refine S_nil ?_
  refine T_tn ?_
  refine wp_exit ?_
  refine T_be ?_
  refine T_tn ?_
  refine wp_seq ?_
  refine W_region ?_
  refine L (D_v (R_move rfl) ?_)
  refine L (D_v (R_assign rfl) ?_)
  refine S_nil ?_
  refine T_tn ?_
  refine wp_ret ?_
  refine ret1 (v := .int _ _) rfl rfl ⟨?_, hE⟩
  rfl

-- forkledger/signed.Encode
set_option maxRecDepth 4000 in
set_option maxHeartbeats 1000000 in
theorem c66 (x : Sg) (w : World) (hs : x.ok w) : Calls Try.prog 66 [x.v].toArray w (RetE w fun r w' => ∃ s, r = .tuple #[s, .bool (okS x)] ∧ OwnB w' w.heap.size s (encS x)) := by
  refine enter Try.func66 Try.ntmps66 rfl rfl ?_
  have hE := Ext.refl w
  have la := encB_le x.vote
  refine wp_seq ?_
  refine W_region ?_
  refine L (D_box (c := (x).l) (rfl) (fun aB1 w1 e1 gB1 hB1 => ?_))
  have lB1 := Nat.le_trans hE.size gB1
  replace hE := hE.trans e1
  refine L (D_v (R_assign rfl) ?_)
  refine L (D_v (R_assign rfl) ?_)
  refine S_nil ?_
  refine T_tn ?_
  refine wp_seq ?_
  refine W_region ?_
  refine L (D_v (R_fieldAddr Try.runUnderlying53 rfl Try.sizeOf26 rfl) ?_)
  refine L (D_v (R_loadA (c := ((x).vote).l) Try.isAgg26 Try.sizeOf26 hB1 rfl rfl rfl) ?_)
  refine L (D_callE (R_callF Try.call35 rfl rfl) (c35 ((x).vote) _) (fun v3 w2 e2 p4 => ?_))
  obtain ⟨q6, rfl, o5⟩ := p4
  replace o5 := o5.lo hE.size
  replace hE := hE.trans e2
  replace hB1 := hB1.ext e2
  refine L (D_v (R_move rfl) ?_)
  refine L (D_v (R_extract rfl rfl) ?_)
  refine L (D_v (R_extract rfl rfl) ?_)
  refine L (D_v (R_assign rfl) ?_)
  refine L (D_v (R_assign rfl) ?_)
  refine S_nil ?_
  refine T_tn ?_
  refine wp_seq ?_
  refine wp_seq ?_
  refine W_draw mixed (by kernel_rfl) ?_
  refine Q_v (fun w hw => R_move rfl) ?_
  refine Q_v (fun w hw => R_not rfl) ?_
  refine Q_v (fun w hw => R_move rfl) ?_
  refine Q_g1 rfl rfl (fun hb w hw => R_fieldAddr Try.runUnderlying53 rfl Try.sizeOf31 rfl) ?_
  refine Q_g1 rfl rfl (fun hb w hw => R_load Try.isAgg31 (hB1.ext hw) (cgE hb) rfl) ?_
  refine Q_g1 rfl rfl (fun hb w hw => R_len Try.underlying31 (cgE hb) ((hs).ext (hE.trans hw))) ?_
  refine Q_gc1 rfl rfl (fun hb w hw => R_callF Try.call101 rfl rfl) (fun hb w hw => c101 _) ?_
  refine Q_g1 rfl rfl (fun hb w hw => R_neqI (cgE hb) (cgE hb)) ?_
  refine Q_v (fun w hw => R_pickO rfl rfl rfl) ?_
  refine Q_nil (fun w3 e7 => ?_)
  replace hE := hE.trans e7
  replace hB1 := hB1.ext e7
  replace o5 := o5.ext e7
  refine T_tn ?_
  refine W_if rfl (fun c8 => ?_) (fun c8 => ?_)
  ·
    have hc := c8
    refine wp_seq ?_
    refine W_region ?_
    refine L (D_v (R_assign rfl) ?_)
    refine L (D_v (R_assign rfl) ?_)
    refine S_nil ?_
    refine T_tn ?_
    refine wp_ret ?_
    refine T_tr ?_
    refine ret2 (v := (Value.slice none 0 0)) (v2 := .bool _) rfl rfl rfl ⟨_, rfl, hE, ?_⟩
    have hk : okS x = false := by (unfold okS; cases hv : valid x.vote <;> simp [hv] at hc ⊢ <;> omega)
    exact ⟨_, congrArg (fun b => Value.tuple #[_, Value.bool b]) hk.symm, by rw [encS, if_neg (by simp [hk])]; exact OwnB.nil _ _⟩
  ·
    have hc := c8
    have hl : x.sig.length = 370 := by cases hv : valid x.vote <;> simp [hv] at hc; omega
    refine wp_skip ?_
    refine T_tn ?_
    refine wp_seq ?_
    refine W_region ?_
    refine L (D_v (R_move rfl) ?_)
    refine L (D_v (R_fieldAddr Try.runUnderlying53 rfl Try.sizeOf31 rfl) ?_)
    refine L (D_v (R_load Try.isAgg31 hB1 rfl rfl) ?_)
    refine L (D_appendB elt5 Try.underlying31 rfl rfl o5 ((hs).ext hE) (by (try simp only [List.length_take, List.length_drop, List.length_append, List.length_cons, List.length_nil, Nm.b_len, be2_len]); omega) hE.size (fun v10 w4 o11 g9 => ?_))
    replace hE := hE.grown g9 (fun k hk => own_ge o5 hk)
    replace hB1 := hB1.grown g9 (o5.neB hB1 rfl)
    refine L (D_v (R_assign rfl) ?_)
    refine L (D_v (R_assign rfl) ?_)
    refine S_nil ?_
    refine T_tn ?_
    refine wp_ret ?_
    refine ret2 (v := v10) (v2 := .bool _) rfl rfl rfl ⟨_, rfl, hE, ?_⟩
    have hk : okS x = true := by (unfold okS; cases hv : valid x.vote <;> simp [hv] at hc ⊢ <;> omega)
    exact ⟨_, congrArg (fun b => Value.tuple #[_, Value.bool b]) hk.symm, by rw [encS, if_pos hk]; exact o11⟩

-- forkledger/forkledgerref6.EncodeSigned
set_option maxRecDepth 4000 in
set_option maxHeartbeats 1000000 in
theorem c67 (x : Sg) (w : World) (hs : x.ok w) : Calls Try.prog 67 [x.v].toArray w (RetE w fun r w' => ∃ s, r = .tuple #[s, .bool (okS x)] ∧ OwnB w' w.heap.size s (encS x)) := by
  refine enter Try.func67 Try.ntmps67 rfl rfl ?_
  have hE := Ext.refl w
  have la := encB_le x.vote
  refine wp_seq ?_
  refine W_region ?_
  refine L (D_box (c := (x).l) (rfl) (fun aB1 w1 e1 gB1 hB1 => ?_))
  have lB1 := Nat.le_trans hE.size gB1
  replace hE := hE.trans e1
  refine L (D_v (R_assign rfl) ?_)
  refine L (D_v (R_assign rfl) ?_)
  refine S_nil ?_
  refine T_tn ?_
  refine wp_seq ?_
  refine W_region ?_
  refine L (D_v (R_fieldAddr Try.runUnderlying53 rfl Try.sizeOf26 rfl) ?_)
  refine L (D_v (R_loadA (c := ((x).vote).l) Try.isAgg26 Try.sizeOf26 hB1 rfl rfl rfl) ?_)
  refine L (D_callE (R_callF Try.call38 rfl rfl) (c38 ((x).vote) _) (fun v3 w2 e2 p4 => ?_))
  obtain ⟨q6, rfl, o5⟩ := p4
  replace o5 := o5.lo hE.size
  replace hE := hE.trans e2
  replace hB1 := hB1.ext e2
  refine L (D_v (R_move rfl) ?_)
  refine L (D_v (R_extract rfl rfl) ?_)
  refine L (D_v (R_extract rfl rfl) ?_)
  refine L (D_v (R_assign rfl) ?_)
  refine L (D_v (R_assign rfl) ?_)
  refine S_nil ?_
  refine T_tn ?_
  refine wp_seq ?_
  refine wp_seq ?_
  refine W_region ?_
  refine L (D_v (R_move rfl) ?_)
  refine L (D_v (R_not rfl) ?_)
  refine L (D_v (R_move rfl) ?_)
  refine L (D_g1 rfl rfl (fun hb => R_fieldAddr Try.runUnderlying53 rfl Try.sizeOf31 rfl) ?_)
  refine L (D_g1 rfl rfl (fun hb => R_load Try.isAgg31 hB1 (cgE hb) rfl) ?_)
  refine L (D_g1 rfl rfl (fun hb => R_len Try.underlying31 (cgE hb) ((hs).ext hE)) ?_)
  refine L (D_g1 rfl rfl (fun hb => R_neqI (cgE hb) rfl) ?_)
  refine L (D_v (R_pickO rfl rfl rfl) ?_)
  refine S_nil ?_
  refine T_tn ?_
  refine W_if rfl (fun c7 => ?_) (fun c7 => ?_)
  ·
    have hc := c7
    refine wp_seq ?_
    refine W_region ?_
    refine L (D_v (R_assign rfl) ?_)
    refine L (D_v (R_assign rfl) ?_)
    refine S_nil ?_
    refine T_tn ?_
    refine wp_ret ?_
    refine T_tr ?_
    refine ret2 (v := (Value.slice none 0 0)) (v2 := .bool _) rfl rfl rfl ⟨_, rfl, hE, ?_⟩
    have hk : okS x = false := by (unfold okS; cases hv : valid x.vote <;> simp [hv] at hc ⊢ <;> omega)
    exact ⟨_, congrArg (fun b => Value.tuple #[_, Value.bool b]) hk.symm, by rw [encS, if_neg (by simp [hk])]; exact OwnB.nil _ _⟩
  ·
    have hc := c7
    have hl : x.sig.length = 370 := by cases hv : valid x.vote <;> simp [hv] at hc; omega
    refine wp_skip ?_
    refine T_tn ?_
    refine wp_seq ?_
    refine W_region ?_
    refine L (D_v (R_move rfl) ?_)
    refine L (D_v (R_fieldAddr Try.runUnderlying53 rfl Try.sizeOf31 rfl) ?_)
    refine L (D_v (R_load Try.isAgg31 hB1 rfl rfl) ?_)
    refine L (D_appendB elt5 Try.underlying31 rfl rfl o5 ((hs).ext hE) (by (try simp only [List.length_take, List.length_drop, List.length_append, List.length_cons, List.length_nil, Nm.b_len, be2_len]); omega) hE.size (fun v9 w3 o10 g8 => ?_))
    replace hE := hE.grown g8 (fun k hk => own_ge o5 hk)
    replace hB1 := hB1.grown g8 (o5.neB hB1 rfl)
    refine L (D_v (R_assign rfl) ?_)
    refine L (D_v (R_assign rfl) ?_)
    refine S_nil ?_
    refine T_tn ?_
    refine wp_ret ?_
    refine ret2 (v := v9) (v2 := .bool _) rfl rfl rfl ⟨_, rfl, hE, ?_⟩
    have hk : okS x = true := by (unfold okS; cases hv : valid x.vote <;> simp [hv] at hc ⊢ <;> omega)
    exact ⟨_, congrArg (fun b => Value.tuple #[_, Value.bool b]) hk.symm, by rw [encS, if_pos hk]; exact o10⟩

-- forkledger/evidence.Encode
set_option maxRecDepth 4000 in
set_option maxHeartbeats 1000000 in
theorem c79 (x : Ev) (w : World) (hs : x.ok w) : Calls Try.prog 79 [x.v].toArray w (RetE w fun r w' => ∃ s, r = .tuple #[s, .bool (okE x)] ∧ OwnB w' w.heap.size s (encE x)) := by
  refine enter Try.func79 Try.ntmps79 rfl rfl ?_
  have hE := Ext.refl w
  have la := encS_le x.a
  have lb := encS_le x.b
  refine wp_seq ?_
  refine W_region ?_
  refine L (D_box (c := (x).l) (rfl) (fun aB1 w1 e1 gB1 hB1 => ?_))
  have lB1 := Nat.le_trans hE.size gB1
  replace hE := hE.trans e1
  refine L (D_v (R_assign rfl) ?_)
  refine L (D_v (R_assign rfl) ?_)
  refine S_nil ?_
  refine T_tn ?_
  refine wp_seq ?_
  refine W_region ?_
  refine L (D_v (R_fieldAddr Try.runUnderlying55 rfl Try.sizeOf53 rfl) ?_)
  refine L (D_v (R_loadA (c := ((x).a).l) Try.isAgg53 Try.sizeOf53 hB1 rfl rfl rfl) ?_)
  refine L (D_callE (R_callF Try.call66 rfl rfl) (c66 ((x).a) _ (hs.1.ext hE)) (fun v3 w2 e2 p4 => ?_))
  obtain ⟨q6, rfl, o5⟩ := p4
  replace o5 := o5.lo hE.size
  replace hE := hE.trans e2
  replace hB1 := hB1.ext e2
  refine L (D_v (R_move rfl) ?_)
  refine L (D_v (R_extract rfl rfl) ?_)
  refine L (D_v (R_extract rfl rfl) ?_)
  refine L (D_v (R_assign rfl) ?_)
  refine L (D_v (R_assign rfl) ?_)
  refine S_nil ?_
  refine T_tn ?_
  refine wp_seq ?_
  refine W_region ?_
  refine L (D_v (R_fieldAddr Try.runUnderlying55 rfl Try.sizeOf53 rfl) ?_)
  refine L (D_v (R_loadA (c := ((x).b).l) Try.isAgg53 Try.sizeOf53 hB1 rfl rfl rfl) ?_)
  refine L (D_callE (R_callF Try.call66 rfl rfl) (c66 ((x).b) _ (hs.2.ext hE)) (fun v8 w3 e7 p9 => ?_))
  obtain ⟨q11, rfl, o10⟩ := p9
  replace o10 := o10.lo hE.size
  replace hE := hE.trans e7
  replace hB1 := hB1.ext e7
  replace o5 := o5.ext e7
  refine L (D_v (R_move rfl) ?_)
  refine L (D_v (R_extract rfl rfl) ?_)
  refine L (D_v (R_extract rfl rfl) ?_)
  refine L (D_v (R_assign rfl) ?_)
  refine L (D_v (R_assign rfl) ?_)
  refine S_nil ?_
  refine T_tn ?_
  refine wp_seq ?_
  refine wp_seq ?_
  refine W_region ?_
  refine L (D_v (R_move rfl) ?_)
  refine L (D_v (R_not rfl) ?_)
  refine L (D_v (R_move rfl) ?_)
  refine L (D_g1 rfl rfl (fun hb => R_move rfl) ?_)
  refine L (D_g1 rfl rfl (fun hb => R_not (cgE hb)) ?_)
  refine L (D_v (R_pickO rfl rfl rfl) ?_)
  refine S_nil ?_
  refine T_tn ?_
  refine W_if rfl (fun c12 => ?_) (fun c12 => ?_)
  ·
    have hc := c12
    refine wp_seq ?_
    refine W_region ?_
    refine L (D_v (R_assign rfl) ?_)
    refine L (D_v (R_assign rfl) ?_)
    refine S_nil ?_
    refine T_tn ?_
    refine wp_ret ?_
    refine T_tr ?_
    refine ret2 (v := (Value.slice none 0 0)) (v2 := .bool _) rfl rfl rfl ⟨_, rfl, hE, ?_⟩
    have hk : okE x = false := by (unfold okE; cases hv : okS x.a <;> cases hv2 : okS x.b <;> simp [hv, hv2] at hc ⊢)
    exact ⟨_, congrArg (fun b => Value.tuple #[_, Value.bool b]) hk.symm, by rw [encE, if_neg (by simp [hk])]; exact OwnB.nil _ _⟩
  ·
    have hc := c12
    refine wp_skip ?_
    refine T_tn ?_
    refine wp_seq ?_
    refine W_region ?_
    refine L (D_v (R_move rfl) ?_)
    refine L (D_v (R_move rfl) ?_)
    refine L (D_appendB elt5 Try.underlying31 rfl rfl o5 o10.bs (by (try simp only [List.length_take, List.length_drop, List.length_append, List.length_cons, List.length_nil, Nm.b_len, be2_len]); omega) hE.size (fun v14 w4 o15 g13 => ?_))
    replace hE := hE.grown g13 (fun k hk => own_ge o5 hk)
    replace hB1 := hB1.grown g13 (o5.neB hB1 rfl)
    refine L (D_v (R_assign rfl) ?_)
    refine L (D_v (R_assign rfl) ?_)
    refine S_nil ?_
    refine T_tn ?_
    refine wp_ret ?_
    refine ret2 (v := v14) (v2 := .bool _) rfl rfl rfl ⟨_, rfl, hE, ?_⟩
    have hk : okE x = true := by (unfold okE; cases hv : okS x.a <;> cases hv2 : okS x.b <;> simp [hv, hv2] at hc ⊢)
    exact ⟨_, congrArg (fun b => Value.tuple #[_, Value.bool b]) hk.symm, by rw [encE, if_pos hk]; exact o15⟩

-- forkledger/forkledgerref6.EncodeEvidence
set_option maxRecDepth 4000 in
set_option maxHeartbeats 1000000 in
theorem c80 (x : Ev) (w : World) (hs : x.ok w) : Calls Try.prog 80 [x.v].toArray w (RetE w fun r w' => ∃ s, r = .tuple #[s, .bool (okE x)] ∧ OwnB w' w.heap.size s (encE x)) := by
  refine enter Try.func80 Try.ntmps80 rfl rfl ?_
  have hE := Ext.refl w
  have la := encS_le x.a
  have lb := encS_le x.b
  refine wp_seq ?_
  refine W_region ?_
  refine L (D_box (c := (x).l) (rfl) (fun aB1 w1 e1 gB1 hB1 => ?_))
  have lB1 := Nat.le_trans hE.size gB1
  replace hE := hE.trans e1
  refine L (D_v (R_assign rfl) ?_)
  refine L (D_v (R_assign rfl) ?_)
  refine S_nil ?_
  refine T_tn ?_
  refine wp_seq ?_
  refine W_region ?_
  refine L (D_v (R_fieldAddr Try.runUnderlying55 rfl Try.sizeOf53 rfl) ?_)
  refine L (D_v (R_loadA (c := ((x).a).l) Try.isAgg53 Try.sizeOf53 hB1 rfl rfl rfl) ?_)
  refine L (D_callE (R_callF Try.call67 rfl rfl) (c67 ((x).a) _ (hs.1.ext hE)) (fun v3 w2 e2 p4 => ?_))
  obtain ⟨q6, rfl, o5⟩ := p4
  replace o5 := o5.lo hE.size
  replace hE := hE.trans e2
  replace hB1 := hB1.ext e2
  refine L (D_v (R_move rfl) ?_)
  refine L (D_v (R_extract rfl rfl) ?_)
  refine L (D_v (R_extract rfl rfl) ?_)
  refine L (D_v (R_assign rfl) ?_)
  refine L (D_v (R_assign rfl) ?_)
  refine S_nil ?_
  refine T_tn ?_
  refine wp_seq ?_
  refine W_region ?_
  refine L (D_v (R_fieldAddr Try.runUnderlying55 rfl Try.sizeOf53 rfl) ?_)
  refine L (D_v (R_loadA (c := ((x).b).l) Try.isAgg53 Try.sizeOf53 hB1 rfl rfl rfl) ?_)
  refine L (D_callE (R_callF Try.call67 rfl rfl) (c67 ((x).b) _ (hs.2.ext hE)) (fun v8 w3 e7 p9 => ?_))
  obtain ⟨q11, rfl, o10⟩ := p9
  replace o10 := o10.lo hE.size
  replace hE := hE.trans e7
  replace hB1 := hB1.ext e7
  replace o5 := o5.ext e7
  refine L (D_v (R_move rfl) ?_)
  refine L (D_v (R_extract rfl rfl) ?_)
  refine L (D_v (R_extract rfl rfl) ?_)
  refine L (D_v (R_assign rfl) ?_)
  refine L (D_v (R_assign rfl) ?_)
  refine S_nil ?_
  refine T_tn ?_
  refine wp_seq ?_
  refine wp_seq ?_
  refine W_region ?_
  refine L (D_v (R_move rfl) ?_)
  refine L (D_v (R_not rfl) ?_)
  refine L (D_v (R_move rfl) ?_)
  refine L (D_g1 rfl rfl (fun hb => R_move rfl) ?_)
  refine L (D_g1 rfl rfl (fun hb => R_not (cgE hb)) ?_)
  refine L (D_v (R_pickO rfl rfl rfl) ?_)
  refine S_nil ?_
  refine T_tn ?_
  refine W_if rfl (fun c12 => ?_) (fun c12 => ?_)
  ·
    have hc := c12
    refine wp_seq ?_
    refine W_region ?_
    refine L (D_v (R_assign rfl) ?_)
    refine L (D_v (R_assign rfl) ?_)
    refine S_nil ?_
    refine T_tn ?_
    refine wp_ret ?_
    refine T_tr ?_
    refine ret2 (v := (Value.slice none 0 0)) (v2 := .bool _) rfl rfl rfl ⟨_, rfl, hE, ?_⟩
    have hk : okE x = false := by (unfold okE; cases hv : okS x.a <;> cases hv2 : okS x.b <;> simp [hv, hv2] at hc ⊢)
    exact ⟨_, congrArg (fun b => Value.tuple #[_, Value.bool b]) hk.symm, by rw [encE, if_neg (by simp [hk])]; exact OwnB.nil _ _⟩
  ·
    have hc := c12
    refine wp_skip ?_
    refine T_tn ?_
    refine wp_seq ?_
    refine W_region ?_
    refine L (D_v (R_move rfl) ?_)
    refine L (D_v (R_move rfl) ?_)
    refine L (D_appendB elt5 Try.underlying31 rfl rfl o5 o10.bs (by (try simp only [List.length_take, List.length_drop, List.length_append, List.length_cons, List.length_nil, Nm.b_len, be2_len]); omega) hE.size (fun v14 w4 o15 g13 => ?_))
    replace hE := hE.grown g13 (fun k hk => own_ge o5 hk)
    replace hB1 := hB1.grown g13 (o5.neB hB1 rfl)
    refine L (D_v (R_assign rfl) ?_)
    refine L (D_v (R_assign rfl) ?_)
    refine S_nil ?_
    refine T_tn ?_
    refine wp_ret ?_
    refine ret2 (v := v14) (v2 := .bool _) rfl rfl rfl ⟨_, rfl, hE, ?_⟩
    have hk : okE x = true := by (unfold okE; cases hv : okS x.a <;> cases hv2 : okS x.b <;> simp [hv, hv2] at hc ⊢)
    exact ⟨_, congrArg (fun b => Value.tuple #[_, Value.bool b]) hk.symm, by rw [encE, if_pos hk]; exact o15⟩
end Go.Proofs.Yteeopgpgbdhmhaa
