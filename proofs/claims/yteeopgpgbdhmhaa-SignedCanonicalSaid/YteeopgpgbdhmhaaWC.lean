/- Walks of the functions on bytes: codec, encoding of votes. No condition. Printed by wip/mkB.py. -/
import Derived.Test.YteeopgpgbdhmhaaSb
namespace Go.Proofs.Yteeopgpgbdhmhaa
open Go.RowKit
set_option linter.unusedVariables false
set_option linter.unusedSimpArgs false
attribute [local irreducible] wpList wpO H wpQuiet wpStill Code.wp Exit.then Exit.inBlock bodyPost Code.rounds Calls valid sameKey conflict lessV hless num between
-- forkledger/codec.extended
set_option maxRecDepth 4000 in
set_option maxHeartbeats 1000000 in
theorem c110 (v : Value) (b : List UInt8) (k : Nat) (w : World) (h : Bs w v b) (hk : b.length + k ≤ 140737488355328) : Calls Try.prog 110 [v, i64 (k : Int)].toArray w (RetE w fun r w' => OwnB w' w.heap.size r b) := by
  refine enter Try.func110 Try.ntmps110 rfl rfl ?_
  have hE := Ext.refl w
  refine wp_seq ?_
  refine W_region ?_
  refine L (D_v (R_assign rfl) ?_)
  refine S_nil ?_
  refine T_tn ?_
  refine wp_seq ?_
  refine W_region ?_
  refine L (D_v (R_move rfl) ?_)
  refine L (D_v (R_len Try.underlying31 rfl (h.ext hE)) ?_)
  refine L (D_v (R_move rfl) ?_)
  refine L (D_v (R_len Try.underlying31 rfl (h.ext hE)) ?_)
  refine L (D_v (R_move rfl) ?_)
  refine L (D_v (R_addN (m := (b).length) (j := k) rfl rfl (by (try simp only [List.length_take, List.length_drop, List.length_append, List.length_cons, List.length_nil, Nm.b_len, be2_len]); omega)) ?_)
  refine L (D_makeN (l := (b).length) (c := ((b).length + k)) elt5 zero5 Try.underlying31 rfl rfl (by (try simp only [List.length_take, List.length_drop, List.length_append, List.length_cons, List.length_nil, Nm.b_len, be2_len]); omega) (by (try simp only [List.length_take, List.length_drop, List.length_append, List.length_cons, List.length_nil, Nm.b_len, be2_len]); omega) (fun v2 w1 o3 e1 => ?_))
  replace o3 := o3.lo hE.size
  replace hE := hE.trans e1
  refine L (D_v (R_assign rfl) ?_)
  refine S_nil ?_
  refine T_tn ?_
  refine wp_seq ?_
  refine W_region ?_
  refine L (D_v (R_move rfl) ?_)
  refine L (D_v (R_move rfl) ?_)
  refine L (D_copyOwnB Try.underlying31 Try.sizeOf5 rfl rfl o3 (h.ext hE) (by simp) (fun r5 w2 o6 k4 => ?_))
  replace hE := hE.grown k4 (fun k hk => own_ge o3 hk)
  refine S_nil ?_
  refine T_tn ?_
  refine wp_seq ?_
  refine W_region ?_
  refine L (D_v (R_move rfl) ?_)
  refine L (D_v (R_assign rfl) ?_)
  refine S_nil ?_
  refine T_tn ?_
  refine wp_ret ?_
  refine ret1 (v := v2) rfl rfl ⟨_, rfl, hE, ?_⟩
  exact o6

-- forkledger/codec.AppendUint
set_option maxRecDepth 4000 in
set_option maxHeartbeats 1000000 in
theorem c86_0 (v : Value) (b : List UInt8) (x : Int) (w : World) (h : Bs w v b) (hk : b.length + 0 ≤ 140737488355328) : Calls Try.prog 86 [v, .int .u64 x, i64 0].toArray w (RetE w fun r w' => OwnB w' w.heap.size r (b)) := by
  refine enter Try.func86 Try.ntmps86 rfl rfl ?_
  have hE := Ext.refl w
  refine wp_seq ?_
  refine W_region ?_
  refine L (D_v (R_assign rfl) ?_)
  refine S_nil ?_
  refine T_tn ?_
  refine wp_seq ?_
  refine W_region ?_
  refine L (D_v (R_move rfl) ?_)
  refine L (D_v (R_maxC (z := 0) rfl rfl (by decide)) ?_)
  refine L (D_v (R_minC (z := 0) rfl rfl (by decide)) ?_)
  refine L (D_v (R_assign rfl) ?_)
  refine S_nil ?_
  refine T_tn ?_
  refine wp_seq ?_
  refine W_region ?_
  refine L (D_v (R_move rfl) ?_)
  refine L (D_v (R_move rfl) ?_)
  refine L (D_callE (R_callF Try.call110 rfl rfl) (c110 v (b) 0 _ (h.ext hE) (by (try simp only [List.length_append, List.length_cons, List.length_nil, Nm.b_len, be2_len]); omega)) (fun v2 w1 e1 p3 => ?_))
  have o4 := p3
  replace o4 := o4.lo hE.size
  replace hE := hE.trans e1
  refine L (D_v (R_assign rfl) ?_)
  refine S_nil ?_
  refine T_tn ?_
  refine wp_seq ?_
  refine wp_seq ?_
  refine W_region ?_
  refine L (D_v (R_move rfl) ?_)
  refine L (D_v (R_cast (v' := .int .i64 (-1)) (R_subI rfl rfl) rfl) ?_)
  refine L (D_v (R_assign rfl) ?_)
  refine S_nil ?_
  refine T_tn ?_
  refine wp_block ?_
  refine W_unroll 0 ?_
  refine W_round ?_
  refine wp_seq ?_
  refine wp_seq ?_
  refine W_region ?_
  refine L (D_v (R_move rfl) ?_)
  refine L (D_v (R_cast (v' := .bool false) (R_geqI rfl rfl) rfl) ?_)
  refine S_nil ?_
  refine T_tn ?_
  refine W_iff rfl ?_
  refine wp_exit ?_
  refine T_te ?_
  refine T_te ?_
  refine T_be ?_
  refine T_tn ?_
  refine wp_seq ?_
  refine W_region ?_
  refine L (D_v (R_move rfl) ?_)
  refine L (D_v (R_assign rfl) ?_)
  refine S_nil ?_
  refine T_tn ?_
  refine wp_ret ?_
  refine ret1 (v := v2) rfl rfl ⟨_, rfl, hE, ?_⟩
  simpa [be2] using o4

-- forkledger/codec.AppendUint
set_option maxRecDepth 4000 in
set_option maxHeartbeats 1000000 in
theorem c86_2 (v : Value) (b : List UInt8) (x : Int) (w : World) (h : Bs w v b) (hk : b.length + 2 ≤ 140737488355328) : Calls Try.prog 86 [v, .int .u64 x, i64 2].toArray w (RetE w fun r w' => OwnB w' w.heap.size r (b ++ be2 x)) := by
  refine enter Try.func86 Try.ntmps86 rfl rfl ?_
  have hE := Ext.refl w
  refine wp_seq ?_
  refine W_region ?_
  refine L (D_v (R_assign rfl) ?_)
  refine S_nil ?_
  refine T_tn ?_
  refine wp_seq ?_
  refine W_region ?_
  refine L (D_v (R_move rfl) ?_)
  refine L (D_v (R_maxC (z := 2) rfl rfl (by decide)) ?_)
  refine L (D_v (R_minC (z := 2) rfl rfl (by decide)) ?_)
  refine L (D_v (R_assign rfl) ?_)
  refine S_nil ?_
  refine T_tn ?_
  refine wp_seq ?_
  refine W_region ?_
  refine L (D_v (R_move rfl) ?_)
  refine L (D_v (R_move rfl) ?_)
  refine L (D_callE (R_callF Try.call110 rfl rfl) (c110 v (b) 2 _ (h.ext hE) (by (try simp only [List.length_append, List.length_cons, List.length_nil, Nm.b_len, be2_len]); omega)) (fun v2 w1 e1 p3 => ?_))
  have o4 := p3
  replace o4 := o4.lo hE.size
  replace hE := hE.trans e1
  refine L (D_v (R_assign rfl) ?_)
  refine S_nil ?_
  refine T_tn ?_
  refine wp_seq ?_
  refine wp_seq ?_
  refine W_region ?_
  refine L (D_v (R_move rfl) ?_)
  refine L (D_v (R_cast (v' := .int .i64 (1)) (R_subI rfl rfl) rfl) ?_)
  refine L (D_v (R_assign rfl) ?_)
  refine S_nil ?_
  refine T_tn ?_
  refine wp_block ?_
  refine W_unroll 2 ?_
  refine W_round ?_
  refine wp_seq ?_
  refine wp_seq ?_
  refine W_region ?_
  refine L (D_v (R_move rfl) ?_)
  refine L (D_v (R_cast (v' := .bool true) (R_geqI rfl rfl) rfl) ?_)
  refine S_nil ?_
  refine T_tn ?_
  refine W_ift rfl ?_
  refine wp_skip ?_
  refine T_tn ?_
  refine wp_seq ?_
  refine wp_block ?_
  refine W_region ?_
  refine L (D_v (R_move rfl) ?_)
  refine L (D_v (R_move rfl) ?_)
  refine L (D_v (R_move rfl) ?_)
  refine L (D_v (R_cast (v' := .int .i64 (8)) (R_mulI rfl rfl) rfl) ?_)
  refine L (D_v (R_shrC (z := 8) rfl rfl (by decide) (by decide)) ?_)
  refine L (D_v (R_convB Try.runUnderlying36 rfl) ?_)
  refine L (D_buildB (vs := [(0, u8 (by8 ((x / 2 ^ 8))))]) (b := [(by8 ((x / 2 ^ 8)))]) Try.underlying31 Try.sizeOf5 Try.zeroValue5 rfl (fillB1 _) rfl rfl rfl (fun v6 w2 o7 e5 => ?_))
  replace o7 := o7.lo hE.size
  replace hE := hE.trans e5
  replace o4 := o4.ext e5
  refine L (D_appendB elt5 Try.underlying31 rfl rfl o4 o7.bs (by (try simp only [List.length_take, List.length_drop, List.length_append, List.length_cons, List.length_nil, Nm.b_len, be2_len]); omega) hE.size (fun v9 w3 o10 g8 => ?_))
  replace hE := hE.grown g8 (fun k hk => own_ge o4 hk)
  refine L (D_v (R_assign rfl) ?_)
  refine S_nil ?_
  refine T_bn ?_
  refine T_tn ?_
  refine W_region ?_
  refine L (D_v (R_move rfl) ?_)
  refine L (D_v (R_cast (v' := .int .i64 (0)) (R_subI rfl rfl) rfl) ?_)
  refine L (D_v (R_assign rfl) ?_)
  refine S_nil ?_
  refine T_tn ?_
  refine W_round ?_
  refine wp_seq ?_
  refine wp_seq ?_
  refine W_region ?_
  refine L (D_v (R_move rfl) ?_)
  refine L (D_v (R_cast (v' := .bool true) (R_geqI rfl rfl) rfl) ?_)
  refine S_nil ?_
  refine T_tn ?_
  refine W_ift rfl ?_
  refine wp_skip ?_
  refine T_tn ?_
  refine wp_seq ?_
  refine wp_block ?_
  refine W_region ?_
  refine L (D_v (R_move rfl) ?_)
  refine L (D_v (R_move rfl) ?_)
  refine L (D_v (R_move rfl) ?_)
  refine L (D_v (R_cast (v' := .int .i64 (0)) (R_mulI rfl rfl) rfl) ?_)
  refine L (D_v (R_shrC (z := 0) rfl rfl (by decide) (by decide)) ?_)
  refine L (D_v (R_convB Try.runUnderlying36 rfl) ?_)
  refine L (D_buildB (vs := [(0, u8 (by8 ((x / 2 ^ 0))))]) (b := [(by8 ((x / 2 ^ 0)))]) Try.underlying31 Try.sizeOf5 Try.zeroValue5 rfl (fillB1 _) rfl rfl rfl (fun v12 w4 o13 e11 => ?_))
  replace o13 := o13.lo hE.size
  replace hE := hE.trans e11
  replace o10 := o10.ext e11
  refine L (D_appendB elt5 Try.underlying31 rfl rfl o10 o13.bs (by (try simp only [List.length_take, List.length_drop, List.length_append, List.length_cons, List.length_nil, Nm.b_len, be2_len]); omega) hE.size (fun v15 w5 o16 g14 => ?_))
  replace hE := hE.grown g14 (fun k hk => own_ge o10 hk)
  refine L (D_v (R_assign rfl) ?_)
  refine S_nil ?_
  refine T_bn ?_
  refine T_tn ?_
  refine W_region ?_
  refine L (D_v (R_move rfl) ?_)
  refine L (D_v (R_cast (v' := .int .i64 (-1)) (R_subI rfl rfl) rfl) ?_)
  refine L (D_v (R_assign rfl) ?_)
  refine S_nil ?_
  refine T_tn ?_
  refine W_round ?_
  refine wp_seq ?_
  refine wp_seq ?_
  refine W_region ?_
  refine L (D_v (R_move rfl) ?_)
  refine L (D_v (R_cast (v' := .bool false) (R_geqI rfl rfl) rfl) ?_)
  refine S_nil ?_
  refine T_tn ?_
  refine W_iff rfl ?_
  refine wp_exit ?_
  refine T_te ?_
  refine T_te ?_
  refine T_be ?_
  refine T_tn ?_
  refine wp_seq ?_
  refine W_region ?_
  refine L (D_v (R_move rfl) ?_)
  refine L (D_v (R_assign rfl) ?_)
  refine S_nil ?_
  refine T_tn ?_
  refine wp_ret ?_
  refine ret1 (v := v15) rfl rfl ⟨_, rfl, hE, ?_⟩
  simpa [be2] using o16

-- forkledger/vote.Encode
set_option maxRecDepth 4000 in
set_option maxHeartbeats 1000000 in
theorem c35 (a : Vt) (w : World) : Calls Try.prog 35 [a.v].toArray w (RetE w fun r w' => ∃ s, r = .tuple #[s, .bool (valid a)] ∧ OwnB w' w.heap.size s (encB a)) := by
  refine enter Try.func35 Try.ntmps35 rfl rfl ?_
  have hE := Ext.refl w
  refine wp_seq ?_
  refine W_region ?_
  refine L (D_box (c := (a).l) (rfl) (fun aB1 w1 e1 gB1 hB1 => ?_))
  have lB1 := Nat.le_trans hE.size gB1
  replace hE := hE.trans e1
  refine L (D_v (R_assign rfl) ?_)
  refine L (D_v (R_assign rfl) ?_)
  refine S_nil ?_
  refine T_tn ?_
  refine wp_seq ?_
  refine wp_seq ?_
  refine W_region ?_
  refine L (D_v (R_loadA (c := (a).l) Try.isAgg26 Try.sizeOf26 hB1 rfl rfl rfl) ?_)
  refine L (D_call (R_callF Try.call26 rfl rfl) (c26 (a) _ ) (fun w2 e2 => ?_))
  replace hE := hE.trans e2
  replace hB1 := hB1.ext e2
  refine L (D_v (R_not rfl) ?_)
  refine S_nil ?_
  refine T_tn ?_
  refine W_if rfl (fun c3 => ?_) (fun c3 => ?_)
  ·
    refine wp_seq ?_
    refine W_region ?_
    refine L (D_v (R_assign rfl) ?_)
    refine L (D_v (R_assign rfl) ?_)
    refine S_nil ?_
    refine T_tn ?_
    refine wp_ret ?_
    refine T_tr ?_
    refine ret2 (v := (Value.slice none 0 0)) (v2 := .bool _) rfl rfl rfl ⟨_, rfl, hE, ?_⟩
    exact ⟨_, congrArg (fun b => Value.tuple #[_, Value.bool b]) (by simp_all), by rw [encB, if_neg (by simp_all)]; exact OwnB.nil _ _⟩
  ·
    refine wp_skip ?_
    refine T_tn ?_
    refine wp_seq ?_
    refine W_region ?_
    refine L (D_make0 (c := 23) elt5 Try.underlying31 rfl rfl (by (try simp only [List.length_take, List.length_drop, List.length_append, List.length_cons, List.length_nil, Nm.b_len, be2_len]); omega) (fun v5 w3 o6 e4 => ?_))
    replace o6 := o6.lo hE.size
    replace hE := hE.trans e4
    replace hB1 := hB1.ext e4
    refine L (D_v (R_assign rfl) ?_)
    refine S_nil ?_
    refine T_tn ?_
    refine wp_seq ?_
    refine W_region ?_
    refine L (D_v (R_move rfl) ?_)
    refine L (D_v (R_fieldAddr Try.runUnderlying26 rfl Try.sizeOf3 rfl) ?_)
    refine L (D_v (R_load Try.isAgg3 hB1 rfl rfl) ?_)
    refine L (D_v (R_convB Try.runUnderlying3 rfl) ?_)
    refine L (D_v (R_fieldAddr Try.runUnderlying26 rfl Try.sizeOf3 rfl) ?_)
    refine L (D_v (R_load Try.isAgg3 hB1 rfl rfl) ?_)
    refine L (D_v (R_convB Try.runUnderlying3 rfl) ?_)
    refine L (D_v (R_fieldAddr Try.runUnderlying26 rfl Try.sizeOf3 rfl) ?_)
    refine L (D_v (R_load Try.isAgg3 hB1 rfl rfl) ?_)
    refine L (D_v (R_convB Try.runUnderlying3 rfl) ?_)
    refine L (D_v (R_fieldAddr Try.runUnderlying26 rfl Try.sizeOf3 rfl) ?_)
    refine L (D_v (R_load Try.isAgg3 hB1 rfl rfl) ?_)
    refine L (D_v (R_convB Try.runUnderlying3 rfl) ?_)
    refine L (D_v (R_fieldAddr Try.runUnderlying26 rfl Try.sizeOf3 rfl) ?_)
    refine L (D_v (R_load Try.isAgg3 hB1 rfl rfl) ?_)
    refine L (D_v (R_convB Try.runUnderlying3 rfl) ?_)
    refine L (D_buildB (vs := [(0, u8 (by8 (a.kind))), (1, u8 (by8 (a.slot))), (2, u8 (by8 (a.round))), (3, u8 (by8 (a.choice))), (4, u8 (by8 (a.signer)))]) (b := [(by8 (a.kind)), (by8 (a.slot)), (by8 (a.round)), (by8 (a.choice)), (by8 (a.signer))]) Try.underlying31 Try.sizeOf5 Try.zeroValue5 rfl (fillB5 _ _ _ _ _) rfl rfl rfl (fun v8 w4 o9 e7 => ?_))
    replace o9 := o9.lo hE.size
    replace hE := hE.trans e7
    replace hB1 := hB1.ext e7
    replace o6 := o6.ext e7
    refine L (D_appendB elt5 Try.underlying31 rfl rfl o6 o9.bs (by (try simp only [List.length_take, List.length_drop, List.length_append, List.length_cons, List.length_nil, Nm.b_len, be2_len]); omega) hE.size (fun v11 w5 o12 g10 => ?_))
    replace hE := hE.grown g10 (fun k hk => own_ge o6 hk)
    replace hB1 := hB1.grown g10 (o6.neB hB1 rfl)
    refine L (D_v (R_assign rfl) ?_)
    refine S_nil ?_
    refine T_tn ?_
    refine wp_seq ?_
    refine W_region ?_
    refine L (D_v (R_move rfl) ?_)
    refine L (D_v (R_fieldAddr Try.runUnderlying26 rfl Try.sizeOf22 rfl) ?_)
    refine L (D_v (R_load Try.isAgg22 hB1 rfl rfl) ?_)
    refine L (D_v (R_conv Try.runUnderlying22 Try.runUnderlying36 rfl) ?_)
    refine L (D_callE (R_callF Try.call86 rfl rfl) (c86_2 v11 (([] ++ [(by8 (a.kind)), (by8 (a.slot)), (by8 (a.round)), (by8 (a.choice)), (by8 (a.signer))])) _ _ o12.bs (by (try simp only [List.length_append, List.length_cons, List.length_nil, Nm.b_len, be2_len]); omega)) (fun v14 w6 e13 p15 => ?_))
    have o16 := p15
    replace o16 := o16.lo hE.size
    replace hE := hE.trans e13
    replace hB1 := hB1.ext e13
    replace o12 := o12.ext e13
    refine L (D_v (R_assign rfl) ?_)
    refine S_nil ?_
    refine T_tn ?_
    refine wp_seq ?_
    refine W_region ?_
    refine L (D_v (R_move rfl) ?_)
    refine L (D_v (R_fieldAddr Try.runUnderlying26 rfl Try.sizeOf24 rfl) ?_)
    refine L (D_v (R_sliceArr (len := 7) Try.underlying24 Try.sizeOf5 rfl) ?_)
    refine L (D_appendB elt5 Try.underlying31 rfl rfl o16 (hB1.bs 6 (a.parent).b rfl rfl rfl) (by (try simp only [List.length_take, List.length_drop, List.length_append, List.length_cons, List.length_nil, Nm.b_len, be2_len]); omega) hE.size (fun v18 w7 o19 g17 => ?_))
    replace hE := hE.grown g17 (fun k hk => own_ge o16 hk)
    replace hB1 := hB1.grown g17 (o16.neB hB1 rfl)
    refine L (D_v (R_assign rfl) ?_)
    refine S_nil ?_
    refine T_tn ?_
    refine wp_seq ?_
    refine W_region ?_
    refine L (D_v (R_move rfl) ?_)
    refine L (D_v (R_fieldAddr Try.runUnderlying26 rfl Try.sizeOf24 rfl) ?_)
    refine L (D_v (R_sliceArr (len := 7) Try.underlying24 Try.sizeOf5 rfl) ?_)
    refine L (D_appendB elt5 Try.underlying31 rfl rfl o19 (hB1.bs 14 (a.value).b rfl rfl rfl) (by (try simp only [List.length_take, List.length_drop, List.length_append, List.length_cons, List.length_nil, Nm.b_len, be2_len]); omega) hE.size (fun v21 w8 o22 g20 => ?_))
    replace hE := hE.grown g20 (fun k hk => own_ge o19 hk)
    replace hB1 := hB1.grown g20 (o19.neB hB1 rfl)
    refine L (D_v (R_assign rfl) ?_)
    refine L (D_v (R_assign rfl) ?_)
    refine S_nil ?_
    refine T_tn ?_
    refine wp_ret ?_
    refine ret2 (v := v21) (v2 := .bool _) rfl rfl rfl ⟨_, rfl, hE, ?_⟩
    exact ⟨_, congrArg (fun b => Value.tuple #[_, Value.bool b]) (by simp_all), by rw [encB, if_pos (by simp_all)]; first | exact o22 | (rw [be2_wrap] at o22; exact o22)⟩

-- forkledger/forkledgerref6.Encode
set_option maxRecDepth 4000 in
set_option maxHeartbeats 1000000 in
theorem c38 (a : Vt) (w : World) : Calls Try.prog 38 [a.v].toArray w (RetE w fun r w' => ∃ s, r = .tuple #[s, .bool (valid a)] ∧ OwnB w' w.heap.size s (encB a)) := by
  refine enter Try.func38 Try.ntmps38 rfl rfl ?_
  have hE := Ext.refl w
  refine wp_seq ?_
  refine W_region ?_
  refine L (D_box (c := (a).l) (rfl) (fun aB1 w1 e1 gB1 hB1 => ?_))
  have lB1 := Nat.le_trans hE.size gB1
  replace hE := hE.trans e1
  refine L (D_v (R_assign rfl) ?_)
  refine L (D_v (R_assign rfl) ?_)
  refine S_nil ?_
  refine T_tn ?_
  refine wp_seq ?_
  refine wp_seq ?_
  refine W_region ?_
  refine L (D_v (R_loadA (c := (a).l) Try.isAgg26 Try.sizeOf26 hB1 rfl rfl rfl) ?_)
  refine L (D_call (R_callF Try.call27 rfl rfl) (c27 (a) _ ) (fun w2 e2 => ?_))
  replace hE := hE.trans e2
  replace hB1 := hB1.ext e2
  refine L (D_v (R_not rfl) ?_)
  refine S_nil ?_
  refine T_tn ?_
  refine W_if rfl (fun c3 => ?_) (fun c3 => ?_)
  ·
    refine wp_seq ?_
    refine W_region ?_
    refine L (D_v (R_assign rfl) ?_)
    refine L (D_v (R_assign rfl) ?_)
    refine S_nil ?_
    refine T_tn ?_
    refine wp_ret ?_
    refine T_tr ?_
    refine ret2 (v := (Value.slice none 0 0)) (v2 := .bool _) rfl rfl rfl ⟨_, rfl, hE, ?_⟩
    exact ⟨_, congrArg (fun b => Value.tuple #[_, Value.bool b]) (by simp_all), by rw [encB, if_neg (by simp_all)]; exact OwnB.nil _ _⟩
  ·
    refine wp_skip ?_
    refine T_tn ?_
    refine wp_seq ?_
    refine W_region ?_
    refine L (D_v (R_fieldAddr Try.runUnderlying26 rfl Try.sizeOf3 rfl) ?_)
    refine L (D_v (R_load Try.isAgg3 hB1 rfl rfl) ?_)
    refine L (D_v (R_convB Try.runUnderlying3 rfl) ?_)
    refine L (D_v (R_fieldAddr Try.runUnderlying26 rfl Try.sizeOf3 rfl) ?_)
    refine L (D_v (R_load Try.isAgg3 hB1 rfl rfl) ?_)
    refine L (D_v (R_convB Try.runUnderlying3 rfl) ?_)
    refine L (D_v (R_fieldAddr Try.runUnderlying26 rfl Try.sizeOf3 rfl) ?_)
    refine L (D_v (R_load Try.isAgg3 hB1 rfl rfl) ?_)
    refine L (D_v (R_convB Try.runUnderlying3 rfl) ?_)
    refine L (D_v (R_fieldAddr Try.runUnderlying26 rfl Try.sizeOf3 rfl) ?_)
    refine L (D_v (R_load Try.isAgg3 hB1 rfl rfl) ?_)
    refine L (D_v (R_convB Try.runUnderlying3 rfl) ?_)
    refine L (D_v (R_fieldAddr Try.runUnderlying26 rfl Try.sizeOf3 rfl) ?_)
    refine L (D_v (R_load Try.isAgg3 hB1 rfl rfl) ?_)
    refine L (D_v (R_convB Try.runUnderlying3 rfl) ?_)
    refine L (D_v (R_fieldAddr Try.runUnderlying26 rfl Try.sizeOf22 rfl) ?_)
    refine L (D_v (R_load Try.isAgg22 hB1 rfl rfl) ?_)
    refine L (D_v (R_shrC (z := 8) rfl rfl (by decide) (by decide)) ?_)
    refine L (D_v (R_convB Try.runUnderlying22 rfl) ?_)
    refine L (D_v (R_fieldAddr Try.runUnderlying26 rfl Try.sizeOf22 rfl) ?_)
    refine L (D_v (R_load Try.isAgg22 hB1 rfl rfl) ?_)
    refine L (D_v (R_convB Try.runUnderlying22 rfl) ?_)
    refine L (D_buildB (vs := [(0, u8 (by8 (a.kind))), (1, u8 (by8 (a.slot))), (2, u8 (by8 (a.round))), (3, u8 (by8 (a.choice))), (4, u8 (by8 (a.signer))), (5, u8 (by8 ((a.support / 2 ^ 8)))), (6, u8 (by8 (a.support)))]) (b := [(by8 (a.kind)), (by8 (a.slot)), (by8 (a.round)), (by8 (a.choice)), (by8 (a.signer)), (by8 ((a.support / 2 ^ 8))), (by8 (a.support))]) Try.underlying31 Try.sizeOf5 Try.zeroValue5 rfl (fillB7 _ _ _ _ _ _ _) rfl rfl rfl (fun v5 w3 o6 e4 => ?_))
    replace o6 := o6.lo hE.size
    replace hE := hE.trans e4
    replace hB1 := hB1.ext e4
    refine L (D_v (R_assign rfl) ?_)
    refine S_nil ?_
    refine T_tn ?_
    refine wp_seq ?_
    refine W_held (fun W => Ext w W ∧ Blk W aB1 (a).l 26 ∧ True) mixed (fun w4 e7 => ?_)
    replace hE := hE.trans e7
    replace hB1 := hB1.ext e7
    replace o6 := o6.ext e7
    refine H_take (i := 0) rfl (by kernel_rfl) (by kernel_rfl) (by kernel_rfl) rfl (pq_then pq_body) ⟨hE, hB1, trivial⟩ rfl (fun w hw => R_move rfl) ?_
    refine H_take (i := 1) rfl (by kernel_rfl) (by kernel_rfl) (by kernel_rfl) rfl (pq_then pq_body) ⟨hE, hB1, trivial⟩ rfl (fun w hw => R_fieldAddr Try.runUnderlying26 rfl Try.sizeOf24 rfl) ?_
    refine H_take (i := 2) rfl (by kernel_rfl) (by kernel_rfl) (by kernel_rfl) rfl (pq_then pq_body) ⟨hE, hB1, trivial⟩ rfl (fun w hw => R_sliceArr (len := 7) Try.underlying24 Try.sizeOf5 rfl) ?_
    refine H_take (i := 4) rfl (by kernel_rfl) (by kernel_rfl) (by kernel_rfl) rfl (pq_then pq_body) ⟨hE, hB1, trivial⟩ rfl (fun w hw => R_fieldAddr Try.runUnderlying26 rfl Try.sizeOf24 rfl) ?_
    refine H_take (i := 5) rfl (by kernel_rfl) (by kernel_rfl) (by kernel_rfl) rfl (pq_then pq_body) ⟨hE, hB1, trivial⟩ rfl (fun w hw => R_sliceArr (len := 7) Try.underlying24 Try.sizeOf5 rfl) ?_
    refine H_op (i := 3) (by kernel_rfl) rfl rfl (D_appendB elt5 Try.underlying31 rfl rfl o6 (hB1.bs 6 (a.parent).b rfl rfl rfl) (by (try simp only [List.length_take, List.length_drop, List.length_append, List.length_cons, List.length_nil, Nm.b_len, be2_len]); omega) hE.size (fun v9 w5 o10 g8 => ?_))
    replace hE := hE.grown g8 (fun k hk => own_ge o6 hk)
    replace hB1 := hB1.grown g8 (o6.neB hB1 rfl)
    refine ⟨⟨hE, hB1, trivial⟩, ?_⟩
    refine H_op (i := 6) (by kernel_rfl) rfl rfl (D_appendB elt5 Try.underlying31 rfl rfl o10 (hB1.bs 14 (a.value).b rfl rfl rfl) (by (try simp only [List.length_take, List.length_drop, List.length_append, List.length_cons, List.length_nil, Nm.b_len, be2_len]); omega) hE.size (fun v12 w6 o13 g11 => ?_))
    replace hE := hE.grown g11 (fun k hk => own_ge o10 hk)
    replace hB1 := hB1.grown g11 (o10.neB hB1 rfl)
    refine ⟨⟨hE, hB1, trivial⟩, ?_⟩
    refine H_take (i := 7) rfl (by kernel_rfl) (by kernel_rfl) (by kernel_rfl) rfl (pq_then pq_body) ⟨hE, hB1, trivial⟩ rfl (fun w hw => R_assign rfl) ?_
    refine H_take (i := 8) rfl (by kernel_rfl) (by kernel_rfl) (by kernel_rfl) rfl (pq_then pq_body) ⟨hE, hB1, trivial⟩ rfl (fun w hw => R_assign rfl) ?_
    refine H_done (by kernel_rfl) ?_
    refine T_tn ?_
    refine wp_ret ?_
    refine ret2 (v := v12) (v2 := .bool _) rfl rfl rfl ⟨_, rfl, hE, ?_⟩
    exact ⟨_, congrArg (fun b => Value.tuple #[_, Value.bool b]) (by simp_all), by rw [encB, if_pos (by simp_all)]; first | exact o13 | (rw [be2_wrap] at o13; exact o13)⟩
end Go.Proofs.Yteeopgpgbdhmhaa
