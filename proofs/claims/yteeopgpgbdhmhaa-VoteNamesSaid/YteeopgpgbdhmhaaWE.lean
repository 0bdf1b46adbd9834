/- Walks of the functions on bytes: the laws VoteNames. No condition. Printed by wip/mkC.py. -/
import Derived.Test.YteeopgpgbdhmhaaSc
namespace Go.Proofs.Yteeopgpgbdhmhaa
open Go.RowKit
set_option linter.unusedVariables false
set_option linter.unusedSimpArgs false
attribute [local irreducible] wpList wpO H wpQuiet wpStill Code.wp Exit.then Exit.inBlock bodyPost Code.rounds Calls valid sameKey conflict lessV hless num between
-- forkledger/forkledgerlaw7.VoteNames
set_option maxRecDepth 4000 in
set_option maxHeartbeats 1000000 in
theorem c7 (a b : Vt) (w : World) (ha : a.wf) (hb : b.wf) : Calls Try.prog 7 [a.v, b.v].toArray w (Ret w (.bool true)) := by
  refine enter Try.func7 Try.ntmps7 rfl rfl ?_
  have hE := Ext.refl w
  have la := encB_le a
  have lb := encB_le b
  refine wp_seq ?_
  refine W_region ?_
  refine L (D_box (c := (a).l) (rfl) (fun aB1 w1 e1 gB1 hB1 => ?_))
  replace hE := hE.trans e1
  refine L (D_box (c := (b).l) (rfl) (fun aB2 w2 e2 gB2 hB2 => ?_))
  replace hE := hE.trans e2
  replace hB1 := hB1.ext e2
  refine L (D_v (R_assign rfl) ?_)
  refine S_nil ?_
  refine T_tn ?_
  refine wp_seq ?_
  refine W_region ?_
  refine L (D_v (R_loadA (c := (a).l) Try.isAgg26 Try.sizeOf26 hB1 rfl rfl rfl) ?_)
  refine L (D_callE (R_callF Try.call35 rfl rfl) (c35 (a) _) (fun v4 w3 e3 p5 => ?_))
  obtain ⟨q7, rfl, o6⟩ := p5
  replace o6 := o6.lo hE.size
  replace hE := hE.trans e3
  replace hB1 := hB1.ext e3
  replace hB2 := hB2.ext e3
  refine L (D_v (R_move rfl) ?_)
  refine L (D_v (R_extract rfl rfl) ?_)
  refine L (D_v (R_extract rfl rfl) ?_)
  refine L (D_v (R_assign rfl) ?_)
  refine L (D_v (R_assign rfl) ?_)
  refine S_nil ?_
  refine T_tn ?_
  refine wp_seq ?_
  refine W_region ?_
  refine L (D_v (R_loadA (c := (b).l) Try.isAgg26 Try.sizeOf26 hB2 rfl rfl rfl) ?_)
  refine L (D_callE (R_callF Try.call35 rfl rfl) (c35 (b) _) (fun v9 w4 e8 p10 => ?_))
  obtain ⟨q12, rfl, o11⟩ := p10
  replace o11 := o11.lo hE.size
  replace hE := hE.trans e8
  replace hB1 := hB1.ext e8
  replace hB2 := hB2.ext e8
  replace o6 := o6.ext e8
  refine L (D_v (R_move rfl) ?_)
  refine L (D_v (R_extract rfl rfl) ?_)
  refine L (D_v (R_extract rfl rfl) ?_)
  refine L (D_v (R_assign rfl) ?_)
  refine L (D_v (R_assign rfl) ?_)
  refine S_nil ?_
  refine T_tn ?_
  refine wp_seq ?_
  refine wp_seq ?_
  refine W_region ?_
  refine L (D_v (R_move rfl) ?_)
  refine L (D_v (R_not rfl) ?_)
  refine L (D_v (R_move rfl) ?_)
  refine L (D_g1 rfl rfl (fun hb => R_move rfl) ?_)
  refine L (D_g1 rfl rfl (fun hb => R_not (cgE hb)) ?_)
  refine L (D_v (R_pickO rfl rfl rfl) ?_)
  refine S_nil ?_
  refine T_tn ?_
  refine W_if rfl (fun c13 => ?_) (fun c13 => ?_)
  ·
    have hc := c13
    refine wp_seq ?_
    refine W_region ?_
    refine L (D_v (R_move rfl) ?_)
    refine L (D_v (R_move rfl) ?_)
    refine L (D_g1 rfl rfl (fun hb => R_loadA (c := (a).l) Try.isAgg26 Try.sizeOf26 hB1 rfl rfl rfl) ?_)
    refine L (D_gc1 rfl rfl (fun hb => R_callF Try.call36 (mapv1 (cgE hb)) rfl) (fun hb => c36 (a) _) (fun w5 e14 => ?_))
    replace hE := hE.trans e14
    replace hB1 := hB1.ext e14
    replace hB2 := hB2.ext e14
    replace o6 := o6.ext e14
    replace o11 := o11.ext e14
    refine L (D_g1 rfl rfl (fun hb => R_build0 Try.runUnderlying24 Try.sizeOf5 Try.zeroValue24) ?_)
    refine L (D_g1 rfl rfl (fun hb => R_eqlA Try.eqGuardType24 (eq24 ((nameV a)) (Nm.zero) _) (cgE hb) (cgE hb)) ?_)
    refine L (D_v (R_pickO rfl rfl rfl) ?_)
    refine L (D_v (R_move rfl) ?_)
    refine L (D_g1 rfl rfl (fun hb => R_move rfl) ?_)
    refine L (D_g1 rfl rfl (fun hb => R_move (cgE hb)) ?_)
    refine L (D_g2 rfl rfl (fun hg hb => R_loadA (c := (b).l) Try.isAgg26 Try.sizeOf26 hB2 rfl rfl rfl) ?_)
    refine L (D_gc2 rfl rfl (fun hg hb => R_callF Try.call36 (mapv1 (cgA hg hb)) rfl) (fun hg hb => c36 (b) _) (fun w6 e15 => ?_))
    replace hE := hE.trans e15
    replace hB1 := hB1.ext e15
    replace hB2 := hB2.ext e15
    replace o6 := o6.ext e15
    replace o11 := o11.ext e15
    refine L (D_g2 rfl rfl (fun hg hb => R_build0 Try.runUnderlying24 Try.sizeOf5 Try.zeroValue24) ?_)
    refine L (D_g2 rfl rfl (fun hg hb => R_eqlA Try.eqGuardType24 (eq24 ((nameV b)) (Nm.zero) _) (cgA hg hb) (cgA hg hb)) ?_)
    refine L (D_g1 rfl rfl (fun hb => R_pickO (cgE hb) rfl (cgD hb)) ?_)
    refine L (D_v (R_pickA rfl rfl rfl) ?_)
    refine L (D_v (R_move rfl) ?_)
    refine L (D_gc1 rfl rfl (fun hb => R_callF Try.call28 rfl rfl) (fun hb => c28 _) (fun w7 e16 => ?_))
    replace hE := hE.trans e16
    replace hB1 := hB1.ext e16
    replace hB2 := hB2.ext e16
    replace o6 := o6.ext e16
    replace o11 := o11.ext e16
    refine L (D_v (R_pickA rfl rfl rfl) ?_)
    refine L (D_v (R_assign rfl) ?_)
    refine S_nil ?_
    refine T_tn ?_
    refine wp_ret ?_
    refine T_tr ?_
    refine ret1 (v := .bool _) rfl rfl ⟨congrArg (fun b => Ending.returned (Value.bool b)) ?_, hE⟩
    (clear hE hB1 hB2; (try clear o3 o6)); first | (cases hva : valid a <;> cases hvb : valid b <;> simp_all [nameV] <;> done) | (simp at hc; simp [names_law ha hb hc.1 hc.2, nameV, hc.1, hc.2]; done) | (trace_state; sorry)
  ·
    have hc := c13
    refine wp_skip ?_
    refine T_tn ?_
    refine wp_seq ?_
    refine W_draw mixed (by kernel_rfl) ?_
    refine Q_v (fun w hw => R_loadA (c := (a).l) Try.isAgg26 Try.sizeOf26 (hB1.ext hw) rfl rfl rfl) ?_
    refine Q_call (fun w hw => R_callF Try.call36 rfl rfl) (fun w hw => c36 (a) _) ?_
    refine Q_v (fun w hw => R_loadA (c := (b).l) Try.isAgg26 Try.sizeOf26 (hB2.ext hw) rfl rfl rfl) ?_
    refine Q_call (fun w hw => R_callF Try.call36 rfl rfl) (fun w hw => c36 (b) _) ?_
    refine Q_v (fun w hw => R_eqlA Try.eqGuardType24 (eq24 ((nameV a)) ((nameV b)) _) rfl rfl) ?_
    refine Q_v (fun w hw => R_move rfl) ?_
    refine Q_call (fun w hw => R_callF Try.call37 rfl rfl) (fun w hw => c37 64 q7 ((encB a)) _ (o6.bs.ext hw) (by (try simp only [List.length_take, List.length_drop, List.length_append, List.length_cons, List.length_nil, Nm.b_len, be2_len, encB_len]); omega)) ?_
    refine Q_v (fun w hw => R_move rfl) ?_
    refine Q_call (fun w hw => R_callF Try.call37 rfl rfl) (fun w hw => c37 64 q12 ((encB b)) _ (o11.bs.ext hw) (by (try simp only [List.length_take, List.length_drop, List.length_append, List.length_cons, List.length_nil, Nm.b_len, be2_len, encB_len]); omega)) ?_
    refine Q_v (fun w hw => R_eqlA Try.eqGuardType24 (eq24 ((hashB (64 :: (encB a)))) ((hashB (64 :: (encB b)))) _) rfl rfl) ?_
    refine Q_v (fun w hw => R_eqlB Try.underlying4 rfl rfl) ?_
    refine Q_v (fun w hw => R_move rfl) ?_
    refine Q_g1 rfl rfl (fun hb w hw => R_loadA (c := (a).l) Try.isAgg26 Try.sizeOf26 (hB1.ext hw) rfl rfl rfl) ?_
    refine Q_g1 rfl rfl (fun hb w hw => R_loadA (c := (b).l) Try.isAgg26 Try.sizeOf26 (hB2.ext hw) rfl rfl rfl) ?_
    refine Q_g1 rfl rfl (fun hb w hw => R_eqlA Try.eqGuardType26 (eq26 (a) (b) _) (cgE hb) (cgE hb)) ?_
    refine Q_g1 rfl rfl (fun hb w hw => R_move rfl) ?_
    refine Q_g1 rfl rfl (fun hb w hw => R_str (b := (encB a)) (cgE hb) (o6.bs.ext hw)) ?_
    refine Q_g1 rfl rfl (fun hb w hw => R_move rfl) ?_
    refine Q_g1 rfl rfl (fun hb w hw => R_str (b := (encB b)) (cgE hb) (o11.bs.ext hw)) ?_
    refine Q_g1 rfl rfl (fun hb w hw => R_eqlStr (a := (encB a)) (b := (encB b)) (cgE hb) (cgE hb)) ?_
    refine Q_g1 rfl rfl (fun hb w hw => R_eqlB Try.underlying4 (cgE hb) (cgE hb)) ?_
    refine Q_v (fun w hw => R_pickA rfl rfl rfl) ?_
    refine Q_v (fun w hw => R_move rfl) ?_
    refine Q_gc1 rfl rfl (fun hb w hw => R_callF Try.call28 rfl rfl) (fun hb w hw => c28 _) ?_
    refine Q_v (fun w hw => R_pickA rfl rfl rfl) ?_
    refine Q_v (fun w hw => R_assign rfl) ?_
    refine Q_nil (fun w8 e17 => ?_)
    replace hE := hE.trans e17
    replace hB1 := hB1.ext e17
    replace hB2 := hB2.ext e17
    replace o6 := o6.ext e17
    replace o11 := o11.ext e17
    refine T_tn ?_
    refine wp_ret ?_
    refine ret1 (v := .bool _) rfl rfl ⟨congrArg (fun b => Ending.returned (Value.bool b)) ?_, hE⟩
    (clear hE hB1 hB2; (try clear o3 o6)); first | (cases hva : valid a <;> cases hvb : valid b <;> simp_all [nameV] <;> done) | (simp at hc; simp [names_law ha hb hc.1 hc.2, nameV, hc.1, hc.2]; done) | (trace_state; sorry)
end Go.Proofs.Yteeopgpgbdhmhaa
