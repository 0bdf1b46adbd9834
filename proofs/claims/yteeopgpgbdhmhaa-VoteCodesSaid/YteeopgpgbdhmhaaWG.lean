/- Walks of the functions on bytes: the laws VoteCodes, VoteBack. No condition. Printed by wip/mkE.py. -/
import Derived.Test.YteeopgpgbdhmhaaWF
namespace Go.Proofs.Yteeopgpgbdhmhaa
open Go.RowKit
set_option linter.unusedVariables false
set_option linter.unusedSimpArgs false
attribute [local irreducible] wpList wpO H wpQuiet wpStill Code.wp Exit.then Exit.inBlock bodyPost Code.rounds Calls valid sameKey conflict lessV hless num between
-- forkledger/forkledgerlaw7.VoteCodes
set_option maxRecDepth 4000 in
set_option maxHeartbeats 4000000 in
theorem c8 (a : Vt) (v : Value) (b : List UInt8) (k : Int) (c : UInt8) (w : World) (h : Bs w v b) : Calls Try.prog 8 [a.v, v, i64 k, u8 c].toArray w (Ret w (.bool true)) := by
  refine enter Try.func8 Try.ntmps8 rfl rfl ?_
  have hE := Ext.refl w
  refine wp_seq ?_
  refine W_region ?_
  refine L (D_box (c := (a).l) (rfl) (fun aB1 w1 e1 gB1 hB1 => ?_))
  have lB1 := Nat.le_trans hE.size gB1
  replace hE := hE.trans e1
  refine L (D_v (R_assign rfl) ?_)
  refine S_nil ?_
  refine T_tn ?_
  refine wp_seq ?_
  refine W_region ?_
  refine L (D_v (R_loadA (c := (a).l) Try.isAgg26 Try.sizeOf26 hB1 rfl rfl rfl) ?_)
  refine L (D_callE (R_callF Try.call35 rfl rfl) (c35 (a) _) (fun v3 w2 e2 p4 => ?_))
  obtain ⟨q6, rfl, o5⟩ := p4
  replace o5 := o5.lo hE.size
  replace hE := hE.trans e2
  replace hB1 := hB1.ext e2
  refine L (D_v (R_move rfl) ?_)
  refine L (D_v (R_extract rfl rfl) ?_)
  refine L (D_v (R_extract rfl rfl) ?_)
  refine L (D_v (R_assign rfl) ?_)
  refine L (D_v (R_assign rfl) ?_)
  refine S_nil ?_
  refine T_tn ?_
  refine wp_seq ?_
  refine W_region ?_
  refine L (D_v (R_loadA (c := (a).l) Try.isAgg26 Try.sizeOf26 hB1 rfl rfl rfl) ?_)
  refine L (D_callE (R_callF Try.call38 rfl rfl) (c38 (a) _) (fun v8 w3 e7 p9 => ?_))
  obtain ⟨q11, rfl, o10⟩ := p9
  replace o10 := o10.lo hE.size
  replace hE := hE.trans e7
  replace hB1 := hB1.ext e7
  replace o5 := o5.ext e7
  refine L (D_v (R_move rfl) ?_)
  refine L (D_v (R_extract rfl rfl) ?_)
  refine L (D_v (R_extract rfl rfl) ?_)
  refine L (D_v (R_assign rfl) ?_)
  refine L (D_v (R_assign rfl) ?_)
  refine S_nil ?_
  refine T_tn ?_
  refine wp_seq ?_
  refine wp_seq ?_
  refine W_draw mixed (by kernel_rfl) ?_
  refine Q_v (fun w hw => R_move rfl) ?_
  refine Q_v (fun w hw => R_str (b := (encB a)) rfl (o5.bs.ext hw)) ?_
  refine Q_v (fun w hw => R_move rfl) ?_
  refine Q_v (fun w hw => R_str (b := (encB a)) rfl (o10.bs.ext hw)) ?_
  refine Q_v (fun w hw => R_neqStr (a := (encB a)) (b := (encB a)) rfl rfl) ?_
  refine Q_v (fun w hw => R_move rfl) ?_
  refine Q_g1 rfl rfl (fun hb w hw => R_move rfl) ?_
  refine Q_g1 rfl rfl (fun hb w hw => R_move rfl) ?_
  refine Q_g1 rfl rfl (fun hb w hw => R_neqB Try.underlying4 (cgE hb) (cgE hb)) ?_
  refine Q_v (fun w hw => R_pickO rfl rfl rfl) ?_
  refine Q_v (fun w hw => R_move rfl) ?_
  refine Q_g1 rfl rfl (fun hb w hw => R_loadA (c := (a).l) Try.isAgg26 Try.sizeOf26 (hB1.ext hw) rfl rfl rfl) ?_
  refine Q_gc1 rfl rfl (fun hb w hw => R_callF Try.call36 (mapv1 (cgE hb)) rfl) (fun hb w hw => c36 (a) _) ?_
  refine Q_g1 rfl rfl (fun hb w hw => R_loadA (c := (a).l) Try.isAgg26 Try.sizeOf26 (hB1.ext hw) rfl rfl rfl) ?_
  refine Q_gc1 rfl rfl (fun hb w hw => R_callF Try.call39 (mapv1 (cgE hb)) rfl) (fun hb w hw => c39 (a) _) ?_
  refine Q_g1 rfl rfl (fun hb w hw => R_neqA Try.eqGuardType24 (eq24 ((nameV a)) ((nameV a)) _) (cgE hb) (cgE hb)) ?_
  refine Q_v (fun w hw => R_pickO rfl rfl rfl) ?_
  refine Q_nil (fun w4 e12 => ?_)
  replace hE := hE.trans e12
  replace hB1 := hB1.ext e12
  replace o5 := o5.ext e12
  replace o10 := o10.ext e12
  refine T_tn ?_
  refine W_if rfl (fun c13 => ?_) (fun c13 => ?_)
  ·
    simp [nameV] at c13
  ·
    refine wp_skip ?_
    refine T_tn ?_
    refine wp_seq ?_
    refine wp_seq ?_
    refine W_region ?_
    refine L (D_v (R_move rfl) ?_)
    refine S_nil ?_
    refine T_tn ?_
    refine W_if rfl (fun c14 => ?_) (fun c14 => ?_)
    ·
      have hl23 := enc_len c14
      refine wp_seq ?_
      refine W_region ?_
      refine L (D_build0 Try.underlying31 Try.sizeOf5 (fun v16 w5 o17 e15 => ?_))
      replace o17 := o17.lo hE.size
      replace hE := hE.trans e15
      replace hB1 := hB1.ext e15
      replace o5 := o5.ext e15
      replace o10 := o10.ext e15
      refine L (D_v (R_move rfl) ?_)
      refine L (D_appendB elt5 Try.underlying31 rfl rfl o17 o10.bs (by (try simp only [List.length_take, List.length_drop, List.length_append, List.length_cons, List.length_nil, Nm.b_len, be2_len]); omega) hE.size (fun v19 w6 o20 g18 => ?_))
      replace hE := hE.grown g18 (fun k hk => own_ge o17 hk)
      replace hB1 := hB1.grown g18 (o17.neB hB1 rfl)
      refine L (D_v (R_assign rfl) ?_)
      refine S_nil ?_
      refine T_tn ?_
      refine wp_seq ?_
      refine W_region ?_
      refine L (D_v (R_move rfl) ?_)
      refine L (D_v (R_move rfl) ?_)
      refine L (D_v (R_conv Try.runUnderlying3 Try.runUnderlying36 rfl) ?_)
      refine L (D_v (R_move rfl) ?_)
      refine L (D_v (R_len Try.underlying31 rfl o20.bs) ?_)
      refine L (D_v (R_conv Try.runUnderlying3 Try.runUnderlying36 rfl) ?_)
      have hix : (IntKind.wrap .u64 (k)).toNat % (([] ++ (encB a))).length < (([] ++ (encB a))).length := Nat.mod_lt _ (by (try simp only [List.length_take, List.length_drop, List.length_append, List.length_cons, List.length_nil, Nm.b_len, be2_len]); omega)
      refine L (D_v (R_remW (M := k) (L := (([] ++ (encB a))).length) rfl rfl (by (try simp only [List.length_take, List.length_drop, List.length_append, List.length_cons, List.length_nil, Nm.b_len, be2_len]); omega) (by (try simp only [List.length_take, List.length_drop, List.length_append, List.length_cons, List.length_nil, Nm.b_len, be2_len]); omega)) ?_)
      refine L (D_v (R_convN (e := ((IntKind.wrap .u64 (k)).toNat % (([] ++ (encB a))).length)) Try.runUnderlying36 Try.runUnderlying3 rfl (Nat.le_trans (Nat.le_of_lt hix) (by (try simp only [List.length_take, List.length_drop, List.length_append, List.length_cons, List.length_nil, Nm.b_len, be2_len]); omega))) ?_)
      refine L (D_v (R_elAddr (i := ((IntKind.wrap .u64 (k)).toNat % (([] ++ (encB a))).length)) Try.underlying31 Try.sizeOf5 rfl rfl o20.bs hix) ?_)
      refine L (D_v (R_loadEl (u := u8 (((([] ++ (encB a))).getD ((IntKind.wrap .u64 (k)).toNat % (([] ++ (encB a))).length) 0))) Try.isAgg5 rfl o20.bs (bl_get hix)) ?_)
      refine L (D_v (R_move rfl) ?_)
      refine L (D_v (R_xorB rfl rfl) ?_)
      refine L (D_v (R_elAddr (i := ((IntKind.wrap .u64 (k)).toNat % (([] ++ (encB a))).length)) Try.underlying31 Try.sizeOf5 rfl rfl o20.bs hix) ?_)
      refine L (D_storeElB (j := ((IntKind.wrap .u64 (k)).toNat % (([] ++ (encB a))).length)) rfl rfl o20 hix (fun w7 o22 g21 => ?_))
      replace hE := hE.grown g21 (fun k hk => own_ge o20 hk)
      replace hB1 := hB1.grown g21 (o20.neB hB1 rfl)
      refine S_nil ?_
      refine T_tn ?_
      refine wp_seq ?_
      refine W_region ?_
      refine L (D_v (R_move rfl) ?_)
      refine L (D_call (R_callF Try.call40 rfl rfl) (c40 v19 ((([] ++ (encB a)).set ((IntKind.wrap .u64 (k)).toNat % (([] ++ (encB a))).length) (((([] ++ (encB a))).getD ((IntKind.wrap .u64 (k)).toNat % (([] ++ (encB a))).length) 0) ^^^ c))) _ o22.bs) (fun w8 e23 => ?_))
      replace hE := hE.trans e23
      replace hB1 := hB1.ext e23
      replace o22 := o22.ext e23
      refine L (D_v (R_move rfl) ?_)
      refine L (D_v (R_extract rfl rfl) ?_)
      refine L (D_v (R_extract rfl rfl) ?_)
      refine L (D_alloc (c := (Vt.zero).l) Try.zeroValue26 rfl (fun aB2 w9 e24 gB2 hB2 => ?_))
      have lB2 := Nat.le_trans hE.size gB2
      have nB1B2 := hB1.ne gB2
      replace hE := hE.trans e24
      replace hB1 := hB1.ext e24
      replace o22 := o22.ext e24
      have xo22 := o22.neB hB2 rfl
      refine L (D_storeA Try.sizeOf26 hB2 rfl rfl rfl rfl rfl (l' := ((dec ((([] ++ (encB a)).set ((IntKind.wrap .u64 (k)).toNat % (([] ++ (encB a))).length) (((([] ++ (encB a))).getD ((IntKind.wrap .u64 (k)).toNat % (([] ++ (encB a))).length) 0) ^^^ c)))).1).l) rfl (fun w10 k25 hB2 => ?_))
      replace hE := hE.kp k25 lB2
      replace hB1 := hB1.kp k25 nB1B2
      replace o22 := o22.kp k25 xo22
      refine L (D_v (R_assign rfl) ?_)
      refine S_nil ?_
      refine T_tn ?_
      refine wp_seq ?_
      refine W_region ?_
      refine L (D_v (R_move rfl) ?_)
      refine L (D_call (R_callF Try.call41 rfl rfl) (c41 v19 ((([] ++ (encB a)).set ((IntKind.wrap .u64 (k)).toNat % (([] ++ (encB a))).length) (((([] ++ (encB a))).getD ((IntKind.wrap .u64 (k)).toNat % (([] ++ (encB a))).length) 0) ^^^ c))) _ o22.bs) (fun w11 e26 => ?_))
      replace hE := hE.trans e26
      replace hB1 := hB1.ext e26
      replace hB2 := hB2.ext e26
      replace o22 := o22.ext e26
      refine L (D_v (R_move rfl) ?_)
      refine L (D_v (R_extract rfl rfl) ?_)
      refine L (D_v (R_extract rfl rfl) ?_)
      refine L (D_alloc (c := (Vt.zero).l) Try.zeroValue26 rfl (fun aB3 w12 e27 gB3 hB3 => ?_))
      have lB3 := Nat.le_trans hE.size gB3
      have nB1B3 := hB1.ne gB3
      have nB2B3 := hB2.ne gB3
      replace hE := hE.trans e27
      replace hB1 := hB1.ext e27
      replace hB2 := hB2.ext e27
      replace o22 := o22.ext e27
      have xo22 := o22.neB hB3 rfl
      refine L (D_storeA Try.sizeOf26 hB3 rfl rfl rfl rfl rfl (l' := ((dec ((([] ++ (encB a)).set ((IntKind.wrap .u64 (k)).toNat % (([] ++ (encB a))).length) (((([] ++ (encB a))).getD ((IntKind.wrap .u64 (k)).toNat % (([] ++ (encB a))).length) 0) ^^^ c)))).1).l) rfl (fun w13 k28 hB3 => ?_))
      replace hE := hE.kp k28 lB3
      replace hB1 := hB1.kp k28 nB1B3
      replace hB2 := hB2.kp k28 nB2B3
      replace o22 := o22.kp k28 xo22
      refine L (D_v (R_assign rfl) ?_)
      refine S_nil ?_
      refine T_tn ?_
      refine wp_seq ?_
      refine W_region ?_
      refine L (D_v (R_loadA (c := ((dec ((([] ++ (encB a)).set ((IntKind.wrap .u64 (k)).toNat % (([] ++ (encB a))).length) (((([] ++ (encB a))).getD ((IntKind.wrap .u64 (k)).toNat % (([] ++ (encB a))).length) 0) ^^^ c)))).1).l) Try.isAgg26 Try.sizeOf26 hB2 rfl rfl rfl) ?_)
      refine L (D_v (R_loadA (c := ((dec ((([] ++ (encB a)).set ((IntKind.wrap .u64 (k)).toNat % (([] ++ (encB a))).length) (((([] ++ (encB a))).getD ((IntKind.wrap .u64 (k)).toNat % (([] ++ (encB a))).length) 0) ^^^ c)))).1).l) Try.isAgg26 Try.sizeOf26 hB3 rfl rfl rfl) ?_)
      refine L (D_v (R_neqA Try.eqGuardType26 (eq26 ((dec ((([] ++ (encB a)).set ((IntKind.wrap .u64 (k)).toNat % (([] ++ (encB a))).length) (((([] ++ (encB a))).getD ((IntKind.wrap .u64 (k)).toNat % (([] ++ (encB a))).length) 0) ^^^ c)))).1) ((dec ((([] ++ (encB a)).set ((IntKind.wrap .u64 (k)).toNat % (([] ++ (encB a))).length) (((([] ++ (encB a))).getD ((IntKind.wrap .u64 (k)).toNat % (([] ++ (encB a))).length) 0) ^^^ c)))).1) _) rfl rfl) ?_)
      refine L (D_v (R_move rfl) ?_)
      refine L (D_g1 rfl rfl (fun hb => R_move rfl) ?_)
      refine L (D_g1 rfl rfl (fun hb => R_move rfl) ?_)
      refine L (D_g1 rfl rfl (fun hb => R_neqI (cgE hb) (cgE hb)) ?_)
      refine L (D_v (R_pickO rfl rfl rfl) ?_)
      refine S_nil ?_
      refine T_tn ?_
      refine W_if rfl (fun c29 => ?_) (fun c29 => ?_)
      ·
        simp at c29
      ·
        refine wp_skip ?_
        refine T_tn ?_
        refine wp_seq ?_
        refine W_region ?_
        refine L (D_v (R_move rfl) ?_)
        refine L (D_call (R_callF Try.call40 rfl rfl) (c40 v (b) _ (h.ext hE)) (fun w14 e30 => ?_))
        replace hE := hE.trans e30
        replace hB1 := hB1.ext e30
        replace hB2 := hB2.ext e30
        replace hB3 := hB3.ext e30
        replace o22 := o22.ext e30
        refine L (D_v (R_move rfl) ?_)
        refine L (D_v (R_extract rfl rfl) ?_)
        refine L (D_v (R_extract rfl rfl) ?_)
        refine L (D_alloc (c := (Vt.zero).l) Try.zeroValue26 rfl (fun aB4 w15 e31 gB4 hB4 => ?_))
        have lB4 := Nat.le_trans hE.size gB4
        have nB1B4 := hB1.ne gB4
        have nB2B4 := hB2.ne gB4
        have nB3B4 := hB3.ne gB4
        replace hE := hE.trans e31
        replace hB1 := hB1.ext e31
        replace hB2 := hB2.ext e31
        replace hB3 := hB3.ext e31
        replace o22 := o22.ext e31
        have xo22 := o22.neB hB4 rfl
        refine L (D_storeA Try.sizeOf26 hB4 rfl rfl rfl rfl rfl (l' := ((dec (b)).1).l) rfl (fun w16 k32 hB4 => ?_))
        replace hE := hE.kp k32 lB4
        replace hB1 := hB1.kp k32 nB1B4
        replace hB2 := hB2.kp k32 nB2B4
        replace hB3 := hB3.kp k32 nB3B4
        replace o22 := o22.kp k32 xo22
        refine L (D_v (R_assign rfl) ?_)
        refine S_nil ?_
        refine T_tn ?_
        refine wp_seq ?_
        refine W_region ?_
        refine L (D_v (R_move rfl) ?_)
        refine L (D_call (R_callF Try.call41 rfl rfl) (c41 v (b) _ (h.ext hE)) (fun w17 e33 => ?_))
        replace hE := hE.trans e33
        replace hB1 := hB1.ext e33
        replace hB2 := hB2.ext e33
        replace hB3 := hB3.ext e33
        replace hB4 := hB4.ext e33
        replace o22 := o22.ext e33
        refine L (D_v (R_move rfl) ?_)
        refine L (D_v (R_extract rfl rfl) ?_)
        refine L (D_v (R_extract rfl rfl) ?_)
        refine L (D_alloc (c := (Vt.zero).l) Try.zeroValue26 rfl (fun aB5 w18 e34 gB5 hB5 => ?_))
        have lB5 := Nat.le_trans hE.size gB5
        have nB1B5 := hB1.ne gB5
        have nB2B5 := hB2.ne gB5
        have nB3B5 := hB3.ne gB5
        have nB4B5 := hB4.ne gB5
        replace hE := hE.trans e34
        replace hB1 := hB1.ext e34
        replace hB2 := hB2.ext e34
        replace hB3 := hB3.ext e34
        replace hB4 := hB4.ext e34
        replace o22 := o22.ext e34
        have xo22 := o22.neB hB5 rfl
        refine L (D_storeA Try.sizeOf26 hB5 rfl rfl rfl rfl rfl (l' := ((dec (b)).1).l) rfl (fun w19 k35 hB5 => ?_))
        replace hE := hE.kp k35 lB5
        replace hB1 := hB1.kp k35 nB1B5
        replace hB2 := hB2.kp k35 nB2B5
        replace hB3 := hB3.kp k35 nB3B5
        replace hB4 := hB4.kp k35 nB4B5
        replace o22 := o22.kp k35 xo22
        refine L (D_v (R_assign rfl) ?_)
        refine S_nil ?_
        refine T_tn ?_
        refine wp_seq ?_
        refine W_region ?_
        refine L (D_v (R_loadA (c := ((dec (b)).1).l) Try.isAgg26 Try.sizeOf26 hB4 rfl rfl rfl) ?_)
        refine L (D_v (R_loadA (c := ((dec (b)).1).l) Try.isAgg26 Try.sizeOf26 hB5 rfl rfl rfl) ?_)
        refine L (D_v (R_eqlA Try.eqGuardType26 (eq26 ((dec (b)).1) ((dec (b)).1) _) rfl rfl) ?_)
        refine L (D_v (R_move rfl) ?_)
        refine L (D_g1 rfl rfl (fun hb => R_move rfl) ?_)
        refine L (D_g1 rfl rfl (fun hb => R_move rfl) ?_)
        refine L (D_g1 rfl rfl (fun hb => R_eqlI (cgE hb) (cgE hb)) ?_)
        refine L (D_v (R_pickA rfl rfl rfl) ?_)
        refine L (D_v (R_move rfl) ?_)
        refine L (D_gc1 rfl rfl (fun hb => R_callF Try.call28 rfl rfl) (fun hb => c28 _) (fun w20 e36 => ?_))
        replace hE := hE.trans e36
        replace hB1 := hB1.ext e36
        replace hB2 := hB2.ext e36
        replace hB3 := hB3.ext e36
        replace hB4 := hB4.ext e36
        replace hB5 := hB5.ext e36
        replace o22 := o22.ext e36
        refine L (D_v (R_pickA rfl rfl rfl) ?_)
        refine L (D_v (R_assign rfl) ?_)
        refine S_nil ?_
        refine T_tn ?_
        refine wp_ret ?_
        refine ret1 (v := .bool _) rfl rfl ⟨congrArg (fun b => Ending.returned (Value.bool b)) ?_, hE⟩
        simp
    ·
      refine wp_skip ?_
      refine T_tn ?_
      refine wp_seq ?_
      refine W_region ?_
      refine L (D_v (R_move rfl) ?_)
      refine L (D_call (R_callF Try.call40 rfl rfl) (c40 v (b) _ (h.ext hE)) (fun w21 e37 => ?_))
      replace hE := hE.trans e37
      replace hB1 := hB1.ext e37
      replace o5 := o5.ext e37
      replace o10 := o10.ext e37
      refine L (D_v (R_move rfl) ?_)
      refine L (D_v (R_extract rfl rfl) ?_)
      refine L (D_v (R_extract rfl rfl) ?_)
      refine L (D_alloc (c := (Vt.zero).l) Try.zeroValue26 rfl (fun aB6 w22 e38 gB6 hB6 => ?_))
      have lB6 := Nat.le_trans hE.size gB6
      have nB1B6 := hB1.ne gB6
      replace hE := hE.trans e38
      replace hB1 := hB1.ext e38
      replace o5 := o5.ext e38
      replace o10 := o10.ext e38
      have xo5 := o5.neB hB6 rfl
      have xo10 := o10.neB hB6 rfl
      refine L (D_storeA Try.sizeOf26 hB6 rfl rfl rfl rfl rfl (l' := ((dec (b)).1).l) rfl (fun w23 k39 hB6 => ?_))
      replace hE := hE.kp k39 lB6
      replace hB1 := hB1.kp k39 nB1B6
      replace o5 := o5.kp k39 xo5
      replace o10 := o10.kp k39 xo10
      refine L (D_v (R_assign rfl) ?_)
      refine S_nil ?_
      refine T_tn ?_
      refine wp_seq ?_
      refine W_region ?_
      refine L (D_v (R_move rfl) ?_)
      refine L (D_call (R_callF Try.call41 rfl rfl) (c41 v (b) _ (h.ext hE)) (fun w24 e40 => ?_))
      replace hE := hE.trans e40
      replace hB1 := hB1.ext e40
      replace hB6 := hB6.ext e40
      replace o5 := o5.ext e40
      replace o10 := o10.ext e40
      refine L (D_v (R_move rfl) ?_)
      refine L (D_v (R_extract rfl rfl) ?_)
      refine L (D_v (R_extract rfl rfl) ?_)
      refine L (D_alloc (c := (Vt.zero).l) Try.zeroValue26 rfl (fun aB7 w25 e41 gB7 hB7 => ?_))
      have lB7 := Nat.le_trans hE.size gB7
      have nB1B7 := hB1.ne gB7
      have nB6B7 := hB6.ne gB7
      replace hE := hE.trans e41
      replace hB1 := hB1.ext e41
      replace hB6 := hB6.ext e41
      replace o5 := o5.ext e41
      replace o10 := o10.ext e41
      have xo5 := o5.neB hB7 rfl
      have xo10 := o10.neB hB7 rfl
      refine L (D_storeA Try.sizeOf26 hB7 rfl rfl rfl rfl rfl (l' := ((dec (b)).1).l) rfl (fun w26 k42 hB7 => ?_))
      replace hE := hE.kp k42 lB7
      replace hB1 := hB1.kp k42 nB1B7
      replace hB6 := hB6.kp k42 nB6B7
      replace o5 := o5.kp k42 xo5
      replace o10 := o10.kp k42 xo10
      refine L (D_v (R_assign rfl) ?_)
      refine S_nil ?_
      refine T_tn ?_
      refine wp_seq ?_
      refine W_region ?_
      refine L (D_v (R_loadA (c := ((dec (b)).1).l) Try.isAgg26 Try.sizeOf26 hB6 rfl rfl rfl) ?_)
      refine L (D_v (R_loadA (c := ((dec (b)).1).l) Try.isAgg26 Try.sizeOf26 hB7 rfl rfl rfl) ?_)
      refine L (D_v (R_eqlA Try.eqGuardType26 (eq26 ((dec (b)).1) ((dec (b)).1) _) rfl rfl) ?_)
      refine L (D_v (R_move rfl) ?_)
      refine L (D_g1 rfl rfl (fun hb => R_move rfl) ?_)
      refine L (D_g1 rfl rfl (fun hb => R_move rfl) ?_)
      refine L (D_g1 rfl rfl (fun hb => R_eqlI (cgE hb) (cgE hb)) ?_)
      refine L (D_v (R_pickA rfl rfl rfl) ?_)
      refine L (D_v (R_move rfl) ?_)
      refine L (D_gc1 rfl rfl (fun hb => R_callF Try.call28 rfl rfl) (fun hb => c28 _) (fun w27 e43 => ?_))
      replace hE := hE.trans e43
      replace hB1 := hB1.ext e43
      replace hB6 := hB6.ext e43
      replace hB7 := hB7.ext e43
      replace o5 := o5.ext e43
      replace o10 := o10.ext e43
      refine L (D_v (R_pickA rfl rfl rfl) ?_)
      refine L (D_v (R_assign rfl) ?_)
      refine S_nil ?_
      refine T_tn ?_
      refine wp_ret ?_
      refine ret1 (v := .bool _) rfl rfl ⟨congrArg (fun b => Ending.returned (Value.bool b)) ?_, hE⟩
      simp

-- forkledger/forkledgerlaw7.VoteBack
set_option maxRecDepth 4000 in
set_option maxHeartbeats 4000000 in
theorem c9 (a : Vt) (v : Value) (b : List UInt8) (w : World) (ha : a.wf) (h : Bs w v b) : Calls Try.prog 9 [a.v, v].toArray w (Ret w (.bool true)) := by
  refine enter Try.func9 Try.ntmps9 rfl rfl ?_
  have hE := Ext.refl w
  have hle := encB_le a
  refine wp_seq ?_
  refine W_region ?_
  refine L (D_box (c := (a).l) (rfl) (fun aB1 w1 e1 gB1 hB1 => ?_))
  have lB1 := Nat.le_trans hE.size gB1
  replace hE := hE.trans e1
  refine L (D_v (R_assign rfl) ?_)
  refine S_nil ?_
  refine T_tn ?_
  refine wp_seq ?_
  refine W_region ?_
  refine L (D_v (R_loadA (c := (a).l) Try.isAgg26 Try.sizeOf26 hB1 rfl rfl rfl) ?_)
  refine L (D_callE (R_callF Try.call35 rfl rfl) (c35 (a) _) (fun v3 w2 e2 p4 => ?_))
  obtain ⟨q6, rfl, o5⟩ := p4
  replace o5 := o5.lo hE.size
  replace hE := hE.trans e2
  replace hB1 := hB1.ext e2
  refine L (D_v (R_move rfl) ?_)
  refine L (D_v (R_extract rfl rfl) ?_)
  refine L (D_v (R_extract rfl rfl) ?_)
  refine L (D_v (R_assign rfl) ?_)
  refine L (D_v (R_assign rfl) ?_)
  refine S_nil ?_
  refine T_tn ?_
  refine wp_seq ?_
  refine wp_seq ?_
  refine W_region ?_
  refine L (D_v (R_move rfl) ?_)
  refine L (D_v (R_loadA (c := (a).l) Try.isAgg26 Try.sizeOf26 hB1 rfl rfl rfl) ?_)
  refine L (D_call (R_callF Try.call26 rfl rfl) (c26 (a) _ ) (fun w3 e7 => ?_))
  replace hE := hE.trans e7
  replace hB1 := hB1.ext e7
  replace o5 := o5.ext e7
  refine L (D_v (R_neqB Try.underlying4 rfl rfl) ?_)
  refine S_nil ?_
  refine T_tn ?_
  refine W_if rfl (fun c8 => ?_) (fun c8 => ?_)
  ·
    simp at c8
  ·
    refine wp_skip ?_
    refine T_tn ?_
    refine wp_seq ?_
    refine wp_seq ?_
    refine W_region ?_
    refine L (D_v (R_move rfl) ?_)
    refine S_nil ?_
    refine T_tn ?_
    refine W_if rfl (fun c9 => ?_) (fun c9 => ?_)
    ·
      have hv := c9
      have hl23 := enc_len c9
      have hde := dec_enc ha c9
      refine wp_seq ?_
      refine W_region ?_
      refine L (D_v (R_move rfl) ?_)
      refine L (D_call (R_callF Try.call40 rfl rfl) (c40 q6 ((encB a)) _ o5.bs) (fun w4 e10 => ?_))
      replace hE := hE.trans e10
      replace hB1 := hB1.ext e10
      replace o5 := o5.ext e10
      refine L (D_v (R_move rfl) ?_)
      refine L (D_v (R_extract rfl rfl) ?_)
      refine L (D_v (R_extract rfl rfl) ?_)
      refine L (D_alloc (c := (Vt.zero).l) Try.zeroValue26 rfl (fun aB2 w5 e11 gB2 hB2 => ?_))
      have lB2 := Nat.le_trans hE.size gB2
      have nB1B2 := hB1.ne gB2
      replace hE := hE.trans e11
      replace hB1 := hB1.ext e11
      replace o5 := o5.ext e11
      have xo5 := o5.neB hB2 rfl
      refine L (D_storeA Try.sizeOf26 hB2 rfl rfl rfl rfl rfl (l' := ((dec ((encB a))).1).l) rfl (fun w6 k12 hB2 => ?_))
      replace hE := hE.kp k12 lB2
      replace hB1 := hB1.kp k12 nB1B2
      replace o5 := o5.kp k12 xo5
      refine L (D_v (R_assign rfl) ?_)
      refine S_nil ?_
      refine T_tn ?_
      refine wp_seq ?_
      refine W_region ?_
      refine L (D_v (R_move rfl) ?_)
      refine L (D_v (R_neqI rfl rfl) ?_)
      refine L (D_v (R_move rfl) ?_)
      refine L (D_g1 rfl rfl (fun hb => R_loadA (c := ((dec ((encB a))).1).l) Try.isAgg26 Try.sizeOf26 hB2 rfl rfl rfl) ?_)
      refine L (D_g1 rfl rfl (fun hb => R_loadA (c := (a).l) Try.isAgg26 Try.sizeOf26 hB1 rfl rfl rfl) ?_)
      refine L (D_g1 rfl rfl (fun hb => R_neqA Try.eqGuardType26 (eq26 ((dec ((encB a))).1) (a) _) (cgE hb) (cgE hb)) ?_)
      refine L (D_v (R_pickO rfl rfl rfl) ?_)
      refine L (D_v (R_move rfl) ?_)
      refine L (D_g1 rfl rfl (fun hb => R_move rfl) ?_)
      refine L (D_g1 rfl rfl (fun hb => R_len Try.underlying31 (cgE hb) o5.bs) ?_)
      refine L (D_g1 rfl rfl (fun hb => R_neqI (cgE hb) rfl) ?_)
      refine L (D_v (R_pickO rfl rfl rfl) ?_)
      refine L (D_v (R_move rfl) ?_)
      refine L (D_g1 rfl rfl (fun hb => R_loadA (c := (a).l) Try.isAgg26 Try.sizeOf26 hB1 rfl rfl rfl) ?_)
      refine L (D_gc1 rfl rfl (fun hb => R_callF Try.call36 (mapv1 (cgE hb)) rfl) (fun hb => c36 (a) _) (fun w7 e13 => ?_))
      replace hE := hE.trans e13
      replace hB1 := hB1.ext e13
      replace hB2 := hB2.ext e13
      replace o5 := o5.ext e13
      refine L (D_g1 rfl rfl (fun hb => R_move rfl) ?_)
      refine L (D_gc1 rfl rfl (fun hb => R_callF Try.call37 (mapv2 rfl (cgE hb)) rfl) (fun hb => c37 64 q6 ((encB a)) _ o5.bs (by (try simp only [List.length_take, List.length_drop, List.length_append, List.length_cons, List.length_nil, Nm.b_len, be2_len, encB_len]); omega)) (fun w8 e14 => ?_))
      replace hE := hE.trans e14
      replace hB1 := hB1.ext e14
      replace hB2 := hB2.ext e14
      replace o5 := o5.ext e14
      refine L (D_g1 rfl rfl (fun hb => R_neqA Try.eqGuardType24 (eq24 ((nameV a)) ((hashB (64 :: (encB a)))) _) (cgE hb) (cgE hb)) ?_)
      refine L (D_v (R_pickO rfl rfl rfl) ?_)
      refine S_nil ?_
      refine T_tn ?_
      refine W_if rfl (fun c15 => ?_) (fun c15 => ?_)
      ·
        simp [hde, nameV, hv, hl23] at c15
      ·
        refine wp_skip ?_
        refine T_tn ?_
        refine wp_seq ?_
        refine wp_seq ?_
        refine W_region ?_
        refine L (D_v (R_move rfl) ?_)
        refine L (D_call (R_callF Try.call40 rfl rfl) (c40 v (b) _ (h.ext hE)) (fun w9 e16 => ?_))
        replace hE := hE.trans e16
        replace hB1 := hB1.ext e16
        replace hB2 := hB2.ext e16
        replace o5 := o5.ext e16
        refine L (D_v (R_move rfl) ?_)
        refine L (D_v (R_extract rfl rfl) ?_)
        refine L (D_v (R_extract rfl rfl) ?_)
        refine L (D_alloc (c := (Vt.zero).l) Try.zeroValue26 rfl (fun aB3 w10 e17 gB3 hB3 => ?_))
        have lB3 := Nat.le_trans hE.size gB3
        have nB1B3 := hB1.ne gB3
        have nB2B3 := hB2.ne gB3
        replace hE := hE.trans e17
        replace hB1 := hB1.ext e17
        replace hB2 := hB2.ext e17
        replace o5 := o5.ext e17
        have xo5 := o5.neB hB3 rfl
        refine L (D_storeA Try.sizeOf26 hB3 rfl rfl rfl rfl rfl (l' := ((dec (b)).1).l) rfl (fun w11 k18 hB3 => ?_))
        replace hE := hE.kp k18 lB3
        replace hB1 := hB1.kp k18 nB1B3
        replace hB2 := hB2.kp k18 nB2B3
        replace o5 := o5.kp k18 xo5
        refine L (D_v (R_assign rfl) ?_)
        refine S_nil ?_
        refine T_tn ?_
        refine wp_seq ?_
        refine W_region ?_
        refine L (D_v (R_move rfl) ?_)
        refine L (D_v (R_eqlI rfl rfl) ?_)
        refine S_nil ?_
        refine T_tn ?_
        refine W_if rfl (fun c19 => ?_) (fun c19 => ?_)
        ·
          have hz := c19
          refine wp_seq ?_
          refine W_region ?_
          refine L (D_v (R_loadA (c := ((dec (b)).1).l) Try.isAgg26 Try.sizeOf26 hB3 rfl rfl rfl) ?_)
          refine L (D_callE (R_callF Try.call35 rfl rfl) (c35 ((dec (b)).1) _) (fun v21 w12 e20 p22 => ?_))
          obtain ⟨q24, rfl, o23⟩ := p22
          replace o23 := o23.lo hE.size
          replace hE := hE.trans e20
          replace hB1 := hB1.ext e20
          replace hB2 := hB2.ext e20
          replace hB3 := hB3.ext e20
          replace o5 := o5.ext e20
          refine L (D_v (R_move rfl) ?_)
          refine L (D_v (R_extract rfl rfl) ?_)
          refine L (D_v (R_extract rfl rfl) ?_)
          refine L (D_v (R_assign rfl) ?_)
          refine L (D_v (R_assign rfl) ?_)
          refine S_nil ?_
          refine T_tn ?_
          refine wp_seq ?_
          refine W_region ?_
          refine L (D_v (R_move rfl) ?_)
          refine L (D_v (R_move rfl) ?_)
          refine L (D_g1 rfl rfl (fun hb => R_move rfl) ?_)
          refine L (D_g1 rfl rfl (fun hb => R_str (b := (encB (dec (b)).1)) (cgE hb) o23.bs) ?_)
          refine L (D_g1 rfl rfl (fun hb => R_move rfl) ?_)
          refine L (D_g1 rfl rfl (fun hb => R_str (b := b) (cgE hb) (h.ext hE)) ?_)
          refine L (D_g1 rfl rfl (fun hb => R_eqlStr (a := (encB (dec (b)).1)) (b := b) (cgE hb) (cgE hb)) ?_)
          refine L (D_v (R_pickA rfl rfl rfl) ?_)
          refine L (D_v (R_move rfl) ?_)
          refine L (D_gc1 rfl rfl (fun hb => R_callF Try.call28 rfl rfl) (fun hb => c28 _) (fun w13 e25 => ?_))
          replace hE := hE.trans e25
          replace hB1 := hB1.ext e25
          replace hB2 := hB2.ext e25
          replace hB3 := hB3.ext e25
          replace o5 := o5.ext e25
          replace o23 := o23.ext e25
          refine L (D_v (R_pickA rfl rfl rfl) ?_)
          refine L (D_v (R_assign rfl) ?_)
          refine S_nil ?_
          refine T_tn ?_
          refine wp_ret ?_
          refine T_tr ?_
          refine ret1 (v := .bool _) rfl rfl ⟨congrArg (fun b => Ending.returned (Value.bool b)) ?_, hE⟩
          first | rfl | (simp at hz; obtain ⟨z1, z2⟩ := enc_dec hz; simp [z1, z2])
        ·
          have hz := c19
          refine wp_skip ?_
          refine T_tn ?_
          refine wp_seq ?_
          refine W_region ?_
          refine L (D_call (R_callF Try.call28 rfl rfl) (c28 _) (fun w14 e26 => ?_))
          replace hE := hE.trans e26
          replace hB1 := hB1.ext e26
          replace hB2 := hB2.ext e26
          replace hB3 := hB3.ext e26
          replace o5 := o5.ext e26
          refine L (D_v (R_assign rfl) ?_)
          refine S_nil ?_
          refine T_tn ?_
          refine wp_ret ?_
          refine ret1 (v := .bool _) rfl rfl ⟨congrArg (fun b => Ending.returned (Value.bool b)) ?_, hE⟩
          first | rfl | (simp at hz; obtain ⟨z1, z2⟩ := enc_dec hz; simp [z1, z2])
    ·
      have hv := c9
      refine wp_skip ?_
      refine T_tn ?_
      refine wp_seq ?_
      refine wp_seq ?_
      refine W_region ?_
      refine L (D_v (R_move rfl) ?_)
      refine L (D_call (R_callF Try.call40 rfl rfl) (c40 v (b) _ (h.ext hE)) (fun w15 e27 => ?_))
      replace hE := hE.trans e27
      replace hB1 := hB1.ext e27
      replace o5 := o5.ext e27
      refine L (D_v (R_move rfl) ?_)
      refine L (D_v (R_extract rfl rfl) ?_)
      refine L (D_v (R_extract rfl rfl) ?_)
      refine L (D_alloc (c := (Vt.zero).l) Try.zeroValue26 rfl (fun aB4 w16 e28 gB4 hB4 => ?_))
      have lB4 := Nat.le_trans hE.size gB4
      have nB1B4 := hB1.ne gB4
      replace hE := hE.trans e28
      replace hB1 := hB1.ext e28
      replace o5 := o5.ext e28
      have xo5 := o5.neB hB4 rfl
      refine L (D_storeA Try.sizeOf26 hB4 rfl rfl rfl rfl rfl (l' := ((dec (b)).1).l) rfl (fun w17 k29 hB4 => ?_))
      replace hE := hE.kp k29 lB4
      replace hB1 := hB1.kp k29 nB1B4
      replace o5 := o5.kp k29 xo5
      refine L (D_v (R_assign rfl) ?_)
      refine S_nil ?_
      refine T_tn ?_
      refine wp_seq ?_
      refine W_region ?_
      refine L (D_v (R_move rfl) ?_)
      refine L (D_v (R_eqlI rfl rfl) ?_)
      refine S_nil ?_
      refine T_tn ?_
      refine W_if rfl (fun c30 => ?_) (fun c30 => ?_)
      ·
        have hz := c30
        refine wp_seq ?_
        refine W_region ?_
        refine L (D_v (R_loadA (c := ((dec (b)).1).l) Try.isAgg26 Try.sizeOf26 hB4 rfl rfl rfl) ?_)
        refine L (D_callE (R_callF Try.call35 rfl rfl) (c35 ((dec (b)).1) _) (fun v32 w18 e31 p33 => ?_))
        obtain ⟨q35, rfl, o34⟩ := p33
        replace o34 := o34.lo hE.size
        replace hE := hE.trans e31
        replace hB1 := hB1.ext e31
        replace hB4 := hB4.ext e31
        replace o5 := o5.ext e31
        refine L (D_v (R_move rfl) ?_)
        refine L (D_v (R_extract rfl rfl) ?_)
        refine L (D_v (R_extract rfl rfl) ?_)
        refine L (D_v (R_assign rfl) ?_)
        refine L (D_v (R_assign rfl) ?_)
        refine S_nil ?_
        refine T_tn ?_
        refine wp_seq ?_
        refine W_region ?_
        refine L (D_v (R_move rfl) ?_)
        refine L (D_v (R_move rfl) ?_)
        refine L (D_g1 rfl rfl (fun hb => R_move rfl) ?_)
        refine L (D_g1 rfl rfl (fun hb => R_str (b := (encB (dec (b)).1)) (cgE hb) o34.bs) ?_)
        refine L (D_g1 rfl rfl (fun hb => R_move rfl) ?_)
        refine L (D_g1 rfl rfl (fun hb => R_str (b := b) (cgE hb) (h.ext hE)) ?_)
        refine L (D_g1 rfl rfl (fun hb => R_eqlStr (a := (encB (dec (b)).1)) (b := b) (cgE hb) (cgE hb)) ?_)
        refine L (D_v (R_pickA rfl rfl rfl) ?_)
        refine L (D_v (R_move rfl) ?_)
        refine L (D_gc1 rfl rfl (fun hb => R_callF Try.call28 rfl rfl) (fun hb => c28 _) (fun w19 e36 => ?_))
        replace hE := hE.trans e36
        replace hB1 := hB1.ext e36
        replace hB4 := hB4.ext e36
        replace o5 := o5.ext e36
        replace o34 := o34.ext e36
        refine L (D_v (R_pickA rfl rfl rfl) ?_)
        refine L (D_v (R_assign rfl) ?_)
        refine S_nil ?_
        refine T_tn ?_
        refine wp_ret ?_
        refine T_tr ?_
        refine ret1 (v := .bool _) rfl rfl ⟨congrArg (fun b => Ending.returned (Value.bool b)) ?_, hE⟩
        first | rfl | (simp at hz; obtain ⟨z1, z2⟩ := enc_dec hz; simp [z1, z2])
      ·
        have hz := c30
        refine wp_skip ?_
        refine T_tn ?_
        refine wp_seq ?_
        refine W_region ?_
        refine L (D_call (R_callF Try.call28 rfl rfl) (c28 _) (fun w20 e37 => ?_))
        replace hE := hE.trans e37
        replace hB1 := hB1.ext e37
        replace hB4 := hB4.ext e37
        replace o5 := o5.ext e37
        refine L (D_v (R_assign rfl) ?_)
        refine S_nil ?_
        refine T_tn ?_
        refine wp_ret ?_
        refine ret1 (v := .bool _) rfl rfl ⟨congrArg (fun b => Ending.returned (Value.bool b)) ?_, hE⟩
        first | rfl | (simp at hz; obtain ⟨z1, z2⟩ := enc_dec hz; simp [z1, z2])
end Go.Proofs.Yteeopgpgbdhmhaa
