/- Walks of the functions on bytes: CheckerChecks. No condition. Printed by wip/mkU.py. -/
import Derived.Test.YteeopgpgbdhmhaaWT
namespace Go.Proofs.Yteeopgpgbdhmhaa
open Go.RowKit
set_option linter.unusedVariables false
set_option linter.unusedSimpArgs false
attribute [local irreducible] wpList wpO H wpQuiet wpStill Code.wp Exit.then Exit.inBlock bodyPost Code.rounds Calls valid sameKey conflict lessV hless num between
-- forkledger/forkledgerlaw10.CheckerChecks
set_option maxRecDepth 4000 in
set_option maxHeartbeats 4000000 in
theorem c11 (vk : Value) (keys : List Nm) (vs : Value) (ss : List Sg) (v : Value) (b : List UInt8) (a3 : Int) (a4 : UInt8) (a5 : Int) (vt : Value) (tl : List UInt8) (w : World) (hk : Ls cN w.heap.size w vk keys) (hs0 : SsIn w vs ss) (h : Bs w v b) (ht : Bs w vt tl) (htl : tl.length ≤ reachBytes) : Calls Try.prog 11 [vk, vs, v, i64 a3, u8 a4, i64 a5, vt].toArray w (Ret w (.bool true)) := by
  refine enter Try.func11 Try.ntmps11 rfl rfl ?_
  have hE := Ext.refl w
  have hss := hs0.1
  have hcut := cut60_ls hss
  have hrb : reachBytes = 140737488351232 := rfl
  rw [hrb] at htl
  refine wp_seq ?_
  refine W_region ?_
  refine L (D_v (R_assign rfl) ?_)
  refine S_nil ?_
  refine T_tn ?_
  refine wp_seq ?_
  refine W_region ?_
  refine L (D_v (R_move rfl) ?_)
  refine L (D_v (R_move rfl) ?_)
  refine L (D_call (R_callF Try.call45 rfl rfl) (c45 vk (keys) v (b) _ ((hk.ext hE).lev fun _ _ _ => trivial) (h.ext hE)) (fun w2_2 e2_2 => ?_))
  replace hE := hE.trans e2_2
  refine L (D_v (R_move rfl) ?_)
  refine L (D_v (R_extract rfl rfl) ?_)
  refine L (D_v (R_extract rfl rfl) ?_)
  refine L (D_v (R_assign rfl) ?_)
  refine L (D_v (R_assign rfl) ?_)
  refine S_nil ?_
  refine T_tn ?_
  refine wp_seq ?_
  refine W_region ?_
  refine L (D_v (R_move rfl) ?_)
  refine L (D_v (R_move rfl) ?_)
  refine L (D_call (R_callF Try.call46 rfl rfl) (c46 vk (keys) v (b) _ ((hk.ext hE).lev fun _ _ _ => trivial) (h.ext hE)) (fun w3_2 e3_2 => ?_))
  replace hE := hE.trans e3_2
  refine L (D_v (R_move rfl) ?_)
  refine L (D_v (R_extract rfl rfl) ?_)
  refine L (D_v (R_extract rfl rfl) ?_)
  refine L (D_v (R_assign rfl) ?_)
  refine L (D_v (R_assign rfl) ?_)
  refine S_nil ?_
  refine T_tn ?_
  refine wp_seq ?_
  refine wp_seq ?_
  refine W_region ?_
  refine L (D_v (R_move rfl) ?_)
  refine L (D_v (R_move rfl) ?_)
  refine L (D_v (R_neqI rfl rfl) ?_)
  refine L (D_v (R_move rfl) ?_)
  refine L (D_g1 rfl rfl (fun hb => R_move rfl) ?_)
  refine L (D_g1 rfl rfl (fun hb => R_move rfl) ?_)
  refine L (D_g1 rfl rfl (fun hb => R_neqI (cgE hb) (cgE hb)) ?_)
  refine L (D_v (R_pickO rfl rfl rfl) ?_)
  refine S_nil ?_
  refine T_tn ?_
  refine W_if rfl (fun c1 => ?_) (fun c1 => ?_)
  ·
    exfalso; simp at c1
  ·
    refine wp_skip ?_
    refine T_tn ?_
    refine wp_seq ?_
    refine W_region ?_
    refine L (D_v (R_move rfl) ?_)
    refine L (D_v (R_move rfl) ?_)
    refine L (D_call (R_callF Try.call48 rfl rfl) (c48 vs (ss) _ ((hss.ext hE).up2 (Nat.le_trans (Nat.le_refl _) hE.size))) (fun w5_2 e5_2 => ?_))
    replace hE := hE.trans e5_2
    refine L (D_callE (R_callF Try.call47 rfl rfl) (c47 vk (keys) w.heap.size (cut60 vs (ss).length) (((ss).take 60)) _ ((hk.ext hE).lev fun _ _ _ => trivial) (Nat.le_trans (Nat.le_refl _) hE.size) (by (try simp only [List.length_take, List.length_drop, List.length_append, List.length_cons, List.length_nil, List.length_replicate, List.length_set, Nm.b_len, be2_len]); omega) (hcut.ext hE)) (fun v5_3 w5_3 e5_3 p5_3 => ?_))
    obtain ⟨y5_3, o5_3⟩ := p5_3
    replace o5_3 := o5_3.low hE.size
    replace hE := hE.trans e5_3
    refine L (D_callE (R_callF Try.call43 rfl rfl) (c43 v5_3 (y5_3) _ o5_3.ls.es) (fun v5_4 w5_4 e5_4 p5_4 => ?_))
    obtain ⟨q5_4, rfl, o5_4⟩ := p5_4
    replace o5_4 := o5_4.lo hE.size
    replace hE := hE.trans e5_4
    replace o5_3 := o5_3.ext e5_4
    refine L (D_v (R_move rfl) ?_)
    refine L (D_v (R_extract rfl rfl) ?_)
    refine L (D_v (R_extract rfl rfl) ?_)
    refine L (D_v (R_assign rfl) ?_)
    refine L (D_v (R_assign rfl) ?_)
    refine S_nil ?_
    refine T_tn ?_
    refine wp_seq ?_
    refine wp_seq ?_
    refine W_region ?_
    refine L (D_v (R_move rfl) ?_)
    refine L (D_v (R_not rfl) ?_)
    refine S_nil ?_
    refine T_tn ?_
    refine W_if rfl (fun c2 => ?_) (fun c2 => ?_)
    ·
      refine wp_seq ?_
      refine W_region ?_
      refine L (D_call (R_callF Try.call44 rfl rfl) (c44 _) (fun w7_0 e7_0 => ?_))
      replace hE := hE.trans e7_0
      refine L (D_v (R_assign rfl) ?_)
      refine S_nil ?_
      refine T_tn ?_
      refine wp_ret ?_
      refine T_tr ?_
      refine ret1 (v := .bool _) rfl rfl ⟨congrArg (fun b => Ending.returned (Value.bool b)) ?_, hE⟩
      rfl
    ·
      have hok : (build (y5_3)).2 = true := by simpa using c2
      obtain ⟨hb1, hb2⟩ := build_len hok
      refine wp_skip ?_
      refine T_tn ?_
      refine wp_seq ?_
      refine W_region ?_
      refine L (D_v (R_move rfl) ?_)
      refine L (D_v (R_move rfl) ?_)
      refine L (D_v (R_conv Try.runUnderlying3 Try.runUnderlying36 rfl) ?_)
      refine L (D_v (R_move rfl) ?_)
      refine L (D_v (R_len Try.underlying31 rfl o5_4.bs) ?_)
      refine L (D_v (R_conv Try.runUnderlying3 Try.runUnderlying36 rfl) ?_)
      have hix : (IntKind.wrap .u64 (a3)).toNat % ((build (y5_3)).1).length < ((build (y5_3)).1).length := Nat.mod_lt _ (by (try simp only [List.length_take, List.length_drop, List.length_append, List.length_cons, List.length_nil, List.length_replicate, List.length_set, Nm.b_len, be2_len]); omega)
      refine L (D_v (R_remW (M := a3) (L := ((build (y5_3)).1).length) rfl rfl (by (try simp only [List.length_take, List.length_drop, List.length_append, List.length_cons, List.length_nil, List.length_replicate, List.length_set, Nm.b_len, be2_len]); omega) (by (try simp only [List.length_take, List.length_drop, List.length_append, List.length_cons, List.length_nil, List.length_replicate, List.length_set, Nm.b_len, be2_len]); omega)) ?_)
      refine L (D_v (R_convN (e := ((IntKind.wrap .u64 (a3)).toNat % ((build (y5_3)).1).length)) Try.runUnderlying36 Try.runUnderlying3 rfl (Nat.le_trans (Nat.le_of_lt hix) (by (try simp only [List.length_take, List.length_drop, List.length_append, List.length_cons, List.length_nil, List.length_replicate, List.length_set, Nm.b_len, be2_len]); omega))) ?_)
      refine L (D_v (R_elAddr (i := ((IntKind.wrap .u64 (a3)).toNat % ((build (y5_3)).1).length)) Try.underlying31 Try.sizeOf5 rfl rfl o5_4.bs (by (try simp only [List.length_take, List.length_drop, List.length_append, List.length_cons, List.length_nil, List.length_replicate, List.length_set, Nm.b_len, be2_len]); omega)) ?_)
      refine L (D_v (R_loadEl (u := u8 ((((build (y5_3)).1).getD ((IntKind.wrap .u64 (a3)).toNat % ((build (y5_3)).1).length) 0))) Try.isAgg5 rfl o5_4.bs (bl_get (by (try simp only [List.length_take, List.length_drop, List.length_append, List.length_cons, List.length_nil, List.length_replicate, List.length_set, Nm.b_len, be2_len]); omega))) ?_)
      refine L (D_v (R_move rfl) ?_)
      refine L (D_v (R_xorB rfl rfl) ?_)
      refine L (D_v (R_elAddr (i := ((IntKind.wrap .u64 (a3)).toNat % ((build (y5_3)).1).length)) Try.underlying31 Try.sizeOf5 rfl rfl o5_4.bs (by (try simp only [List.length_take, List.length_drop, List.length_append, List.length_cons, List.length_nil, List.length_replicate, List.length_set, Nm.b_len, be2_len]); omega)) ?_)
      refine L (D_storeElB (j := ((IntKind.wrap .u64 (a3)).toNat % ((build (y5_3)).1).length)) rfl rfl o5_4 (by (try simp only [List.length_take, List.length_drop, List.length_append, List.length_cons, List.length_nil, List.length_replicate, List.length_set, Nm.b_len, be2_len]); omega) (fun w7_13 o7_13 g7_13 => ?_))
      replace hE := hE.grown g7_13 (fun k hk => own_ge o5_4 hk)
      refine S_nil ?_
      refine T_tn ?_
      refine wp_seq ?_
      refine W_region ?_
      refine L (D_v (R_move rfl) ?_)
      refine L (D_v (R_move rfl) ?_)
      refine L (D_v (R_len Try.underlying31 rfl o7_13.bs) ?_)
      refine L (D_v (R_move rfl) ?_)
      refine L (D_v (R_conv Try.runUnderlying3 Try.runUnderlying36 rfl) ?_)
      have hi3 : (IntKind.wrap .u64 (a5)).toNat % 3 < 3 := Nat.mod_lt _ (by decide)
      refine L (D_v (R_remW (M := a5) (L := 3) rfl rfl (by decide) (by decide)) ?_)
      refine L (D_v (R_convN (e := ((IntKind.wrap .u64 (a5)).toNat % 3)) Try.runUnderlying36 Try.runUnderlying3 rfl (Nat.le_trans (Nat.le_of_lt hi3) (by decide))) ?_)
      refine L (D_v (R_subN (m := (((build (y5_3)).1.set ((IntKind.wrap .u64 (a3)).toNat % ((build (y5_3)).1).length) ((((build (y5_3)).1).getD ((IntKind.wrap .u64 (a3)).toNat % ((build (y5_3)).1).length) 0) ^^^ a4))).length) (j := ((IntKind.wrap .u64 (a5)).toNat % 3)) rfl rfl (by (try simp only [List.length_take, List.length_drop, List.length_append, List.length_cons, List.length_nil, List.length_replicate, List.length_set, Nm.b_len, be2_len]); omega) (by (try simp only [List.length_take, List.length_drop, List.length_append, List.length_cons, List.length_nil, List.length_replicate, List.length_set, Nm.b_len, be2_len]); omega)) ?_)
      refine L (D_v (R_sliceHi (j := ((((build (y5_3)).1.set ((IntKind.wrap .u64 (a3)).toNat % ((build (y5_3)).1).length) ((((build (y5_3)).1).getD ((IntKind.wrap .u64 (a3)).toNat % ((build (y5_3)).1).length) 0) ^^^ a4))).length - ((IntKind.wrap .u64 (a5)).toNat % 3))) Try.underlying31 Try.sizeOf5 rfl rfl o7_13.bs (by (try simp only [List.length_take, List.length_drop, List.length_append, List.length_cons, List.length_nil, List.length_replicate, List.length_set, Nm.b_len, be2_len]); omega)) ?_)
      refine L (D_v (R_move rfl) ?_)
      have ot := o7_13.take (j := ((((build (y5_3)).1.set ((IntKind.wrap .u64 (a3)).toNat % ((build (y5_3)).1).length) ((((build (y5_3)).1).getD ((IntKind.wrap .u64 (a3)).toNat % ((build (y5_3)).1).length) 0) ^^^ a4))).length - ((IntKind.wrap .u64 (a5)).toNat % 3))) (by (try simp only [List.length_take, List.length_drop, List.length_append, List.length_cons, List.length_nil, List.length_replicate, List.length_set, Nm.b_len, be2_len]); omega)
      refine L (D_appendW elt5 Try.underlying31 rfl rfl ot (ht.ext hE) (by (try simp only [List.length_take, List.length_drop, List.length_append, List.length_cons, List.length_nil, List.length_replicate, List.length_set, Nm.b_len, be2_len]); omega) hE.size (fun v8_10 w8_10 o8_10 g8_10 => ?_))
      replace hE := hE.grown g8_10 (fun k hk => own_ge ot hk)
      refine L (D_v (R_assign rfl) ?_)
      refine S_nil ?_
      refine T_tn ?_
      refine wp_seq ?_
      refine W_region ?_
      refine L (D_v (R_move rfl) ?_)
      refine L (D_v (R_move rfl) ?_)
      refine L (D_call (R_callF Try.call45 rfl rfl) (c45 vk (keys) v8_10 (((((((build (y5_3)).1.set ((IntKind.wrap .u64 (a3)).toNat % ((build (y5_3)).1).length) ((((build (y5_3)).1).getD ((IntKind.wrap .u64 (a3)).toNat % ((build (y5_3)).1).length) 0) ^^^ a4))).drop (0)).take (((((build (y5_3)).1.set ((IntKind.wrap .u64 (a3)).toNat % ((build (y5_3)).1).length) ((((build (y5_3)).1).getD ((IntKind.wrap .u64 (a3)).toNat % ((build (y5_3)).1).length) 0) ^^^ a4))).length - ((IntKind.wrap .u64 (a5)).toNat % 3)) - 0)) ++ tl)) _ ((hk.ext hE).lev fun _ _ _ => trivial) o8_10.bs) (fun w9_2 e9_2 => ?_))
      replace hE := hE.trans e9_2
      replace o8_10 := o8_10.ext e9_2
      refine L (D_v (R_move rfl) ?_)
      refine L (D_v (R_extract rfl rfl) ?_)
      refine L (D_v (R_extract rfl rfl) ?_)
      refine L (D_v (R_assign rfl) ?_)
      refine L (D_v (R_assign rfl) ?_)
      refine S_nil ?_
      refine T_tn ?_
      refine wp_seq ?_
      refine W_region ?_
      refine L (D_v (R_move rfl) ?_)
      refine L (D_v (R_move rfl) ?_)
      refine L (D_call (R_callF Try.call46 rfl rfl) (c46 vk (keys) v8_10 (((((((build (y5_3)).1.set ((IntKind.wrap .u64 (a3)).toNat % ((build (y5_3)).1).length) ((((build (y5_3)).1).getD ((IntKind.wrap .u64 (a3)).toNat % ((build (y5_3)).1).length) 0) ^^^ a4))).drop (0)).take (((((build (y5_3)).1.set ((IntKind.wrap .u64 (a3)).toNat % ((build (y5_3)).1).length) ((((build (y5_3)).1).getD ((IntKind.wrap .u64 (a3)).toNat % ((build (y5_3)).1).length) 0) ^^^ a4))).length - ((IntKind.wrap .u64 (a5)).toNat % 3)) - 0)) ++ tl)) _ ((hk.ext hE).lev fun _ _ _ => trivial) o8_10.bs) (fun w10_2 e10_2 => ?_))
      replace hE := hE.trans e10_2
      replace o8_10 := o8_10.ext e10_2
      refine L (D_v (R_move rfl) ?_)
      refine L (D_v (R_extract rfl rfl) ?_)
      refine L (D_v (R_extract rfl rfl) ?_)
      refine L (D_v (R_assign rfl) ?_)
      refine L (D_v (R_assign rfl) ?_)
      refine S_nil ?_
      refine T_tn ?_
      refine wp_seq ?_
      refine W_region ?_
      refine L (D_v (R_move rfl) ?_)
      refine L (D_v (R_move rfl) ?_)
      refine L (D_v (R_eqlI rfl rfl) ?_)
      refine L (D_v (R_move rfl) ?_)
      refine L (D_g1 rfl rfl (fun hb => R_move rfl) ?_)
      refine L (D_g1 rfl rfl (fun hb => R_move rfl) ?_)
      refine L (D_g1 rfl rfl (fun hb => R_eqlI (cgE hb) (cgE hb)) ?_)
      refine L (D_v (R_pickA rfl rfl rfl) ?_)
      refine L (D_v (R_move rfl) ?_)
      refine L (D_gc1 rfl rfl (fun hb => R_callF Try.call44 rfl rfl) (fun hb => c44 _) (fun w11_9 e11_9 => ?_))
      replace hE := hE.trans e11_9
      refine L (D_v (R_pickA rfl rfl rfl) ?_)
      refine L (D_v (R_assign rfl) ?_)
      refine S_nil ?_
      refine T_tn ?_
      refine wp_ret ?_
      refine ret1 (v := .bool _) rfl rfl ⟨congrArg (fun b => Ending.returned (Value.bool b)) ?_, hE⟩
      simp
end Go.Proofs.Yteeopgpgbdhmhaa
