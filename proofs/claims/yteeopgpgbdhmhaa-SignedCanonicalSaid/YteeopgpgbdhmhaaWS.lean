/- Walks of the functions on bytes: sort.SliceStable, Less. No condition. Printed by wip/mkS.py. -/
import Derived.Test.YteeopgpgbdhmhaaSx
import Derived.Test.YteeopgpgbdhmhaaWO
namespace Go.Proofs.Yteeopgpgbdhmhaa
open Go.RowKit
set_option linter.unusedVariables false
set_option linter.unusedSimpArgs false
attribute [local irreducible] lessP ltB wpList wpO H wpQuiet wpStill Code.wp Exit.then Exit.inBlock bodyPost Code.rounds Calls valid sameKey conflict lessV hless num between
-- sort.SliceStable
set_option maxRecDepth 4000 in
set_option maxHeartbeats 2000000 in
theorem c95 {α : Type} {S : (Nat → α) → World → Prop} {gB n : Nat} {lf sf : Value} {lt : α → α → Bool} (hR : Srt Try.prog S gB n lf sf lt) (f : Nat → α) (p : Option Addr) (c : Nat) (w : World) (hG : S f w) (hsw : isSw (.slice p n c) sf) : Calls Try.prog 95 [.iface 46 (.slice p n c), lf].toArray w (RetS gB w fun w2 => ∃ f', S f' w2 ∧ Mv f f' 0 n ∧ srt lt f' 0 n) := by
  refine enter Try.func95 Try.ntmps95 rfl rfl ?_
  have hE := Chg.refl gB w
  have hnb := hR.nb
  have hlp := hR.lp
  have hsp := hR.sp
  have hX := Ext.refl w
  have hG0 := hG
  refine wp_seq ?_
  refine W_region ?_
  refine L (D_v (R_move rfl) ?_)
  refine L (D_valueOf rfl (fun aBV w1_1 e1_1 gBV hBV => ?_))
  have lBV := Nat.le_trans hE.size gBV
  have nGBV := Nat.ne_of_lt (Nat.lt_of_lt_of_le (hR.bound _ _ hG) gBV)
  replace hE := hE.trans e1_1
  replace hX := hX.trans e1_1
  replace hG := hR.ext _ _ _ hG e1_1
  refine L (D_alloc Try.zeroValue139 rfl (fun aB1_2 w1_2 e1_2 gB1_2 hB1_2 => ?_))
  have lB1_2 := Nat.le_trans hE.size gB1_2
  have nGB1_2 := Nat.ne_of_lt (Nat.lt_of_lt_of_le (hR.bound _ _ hG) gB1_2)
  have nBVB1_2 := hBV.ne gB1_2
  replace hE := hE.trans e1_2
  replace hX := hX.trans e1_2
  replace hG := hR.ext _ _ _ hG e1_2
  replace hBV := hBV.ext e1_2
  have h0 := hB1_2
  refine L (D_storeA Try.sizeOf139 hB1_2 rfl rfl rfl rfl rfl (l' := [typeHandle Try.prog 46, .pointer (some ⟨aBV, 0, none⟩), .int .u64 (151)]) rfl (fun w1_3 k1_3 hB1_2 => ?_))
  replace hE := hE.kpo k1_3 lB1_2
  replace hX := hX.kp k1_3 lB1_2
  replace hG := hR.ext _ _ _ hG0 hX
  replace hBV := hBV.kp k1_3 nBVB1_2
  refine S_nil ?_
  refine T_tn ?_
  refine wp_seq ?_
  refine W_region ?_
  refine L (D_v (R_move rfl) ?_)
  refine L (D_v (R_callX ext125 rfl rfl (hsw _)) ?_)
  refine L (D_v (R_assign rfl) ?_)
  refine S_nil ?_
  refine T_tn ?_
  refine W_region ?_
  refine L (D_v (R_move rfl) ?_)
  refine L (D_v (R_move rfl) ?_)
  refine L (D_v (R_buildS (vs := [(0, lf), (1, sf)]) (c := [lf, sf]) Try.runUnderlying145 places145 Try.zeroValue145 (mapp2 rfl rfl) (fill145 hlp hsp)) ?_)
  refine L (D_v (R_loadA (c := [typeHandle Try.prog 46, .pointer (some ⟨aBV, 0, none⟩), .int .u64 (151)]) Try.isAgg139 Try.sizeOf139 hB1_2 rfl rfl rfl) ?_)
  refine L (D_valueLen rfl hBV ?_)
  refine L (D_callS (R_callF Try.call126 rfl rfl) (c126 hR (f) _ hG) (fun w3_5 p3_5 => ?_))
  obtain ⟨e3_5, h3_5, hG, q3_5⟩ := p3_5
  replace hE := hE.chg e3_5
  replace hBV := hBV.chg e3_5 nGBV.symm
  replace hB1_2 := hB1_2.chg e3_5 nGB1_2.symm
  refine S_nil ?_
  refine ret0n rfl ⟨rfl, hE, ?_⟩
  exact ⟨_, hG, q3_5⟩

-- bytes.Compare
set_option maxRecDepth 4000 in
set_option maxHeartbeats 1000000 in
theorem c99 (u v : Value) (a b : List UInt8) (w : World) (ha : Bs w u a) (hb : Bs w v b) : Calls Try.prog 99 [u, v].toArray w (Ret w (i64 (Go.Lib.compareBytes a b))) := by
  refine enter Try.func99 Try.ntmps99 rfl rfl ?_
  have hE := Ext.refl w
  refine wp_seq ?_
  refine W_region ?_
  refine L (D_v (R_assign rfl) ?_)
  refine S_nil ?_
  refine T_tn ?_
  refine wp_seq ?_
  refine W_region ?_
  refine L (D_v (R_move rfl) ?_)
  refine L (D_v (R_move rfl) ?_)
  refine L (D_v (R_callX ext132 rfl rfl (run_compare (a := a) (b := b) (ha.ext hE) (hb.ext hE))) ?_)
  refine L (D_v (R_assign rfl) ?_)
  refine S_nil ?_
  refine T_tn ?_
  refine wp_ret ?_
  refine ret1 (v := .int _ _) rfl rfl ⟨?_, hE⟩
  rfl

-- forkledger/signed.Less
set_option maxRecDepth 4000 in
set_option maxHeartbeats 1000000 in
theorem c61 (x y : Sg) (w : World) (hx : x.okf w.heap.size w) (hy : y.okf w.heap.size w) : Calls Try.prog 61 [x.v, y.v].toArray w (Ret w (.bool (lessP x.p y.p))) := by
  refine enter Try.func61 Try.ntmps61 rfl rfl ?_
  have hE := Ext.refl w
  refine wp_seq ?_
  refine W_region ?_
  refine L (D_box (c := (x).l) (rfl) (fun aB1_0 w1_0 e1_0 gB1_0 hB1_0 => ?_))
  have lB1_0 := Nat.le_trans hE.size gB1_0
  replace hE := hE.trans e1_0
  refine L (D_box (c := (y).l) (rfl) (fun aB1_1 w1_1 e1_1 gB1_1 hB1_1 => ?_))
  have lB1_1 := Nat.le_trans hE.size gB1_1
  have nB1_0B1_1 := hB1_0.ne gB1_1
  replace hE := hE.trans e1_1
  replace hB1_0 := hB1_0.ext e1_1
  refine L (D_v (R_assign rfl) ?_)
  refine S_nil ?_
  refine T_tn ?_
  refine wp_seq ?_
  refine wp_seq ?_
  refine W_region ?_
  refine L (D_v (R_fieldAddr Try.runUnderlying53 rfl Try.sizeOf26 rfl) ?_)
  refine L (D_v (R_loadA (c := ((x).vote).l) Try.isAgg26 Try.sizeOf26 hB1_0 rfl rfl rfl) ?_)
  refine L (D_v (R_fieldAddr Try.runUnderlying53 rfl Try.sizeOf26 rfl) ?_)
  refine L (D_v (R_loadA (c := ((y).vote).l) Try.isAgg26 Try.sizeOf26 hB1_1 rfl rfl rfl) ?_)
  refine L (D_v (R_neqA Try.eqGuardType26 (eq26 ((x).vote) ((y).vote) _) rfl rfl) ?_)
  refine S_nil ?_
  refine T_tn ?_
  refine W_if rfl (fun c1 => ?_) (fun c1 => ?_)
  ·
    have hne : (x).p.1 ≠ (y).p.1 := (show ¬ (x).vote = (y).vote by simpa using c1)
    refine wp_seq ?_
    refine W_region ?_
    refine L (D_v (R_fieldAddr Try.runUnderlying53 rfl Try.sizeOf26 rfl) ?_)
    refine L (D_v (R_loadA (c := ((x).vote).l) Try.isAgg26 Try.sizeOf26 hB1_0 rfl rfl rfl) ?_)
    refine L (D_v (R_fieldAddr Try.runUnderlying53 rfl Try.sizeOf26 rfl) ?_)
    refine L (D_v (R_loadA (c := ((y).vote).l) Try.isAgg26 Try.sizeOf26 hB1_1 rfl rfl rfl) ?_)
    refine L (D_call (R_callF Try.call33 rfl rfl) (c33 ((x).vote) ((y).vote) _ ) (fun w3_4 e3_4 => ?_))
    replace hE := hE.trans e3_4
    replace hB1_0 := hB1_0.ext e3_4
    replace hB1_1 := hB1_1.ext e3_4
    refine L (D_v (R_assign rfl) ?_)
    refine S_nil ?_
    refine T_tn ?_
    refine wp_ret ?_
    refine T_tr ?_
    refine ret1 (v := .bool _) rfl rfl ⟨?_, hE⟩
    rw [lessP_ne hne]; rfl
  ·
    have hne : (x).p.1 = (y).p.1 := (show (x).vote = (y).vote by simpa using c1)
    refine wp_skip ?_
    refine T_tn ?_
    refine wp_seq ?_
    refine W_region ?_
    refine L (D_v (R_fieldAddr Try.runUnderlying53 rfl Try.sizeOf31 rfl) ?_)
    refine L (D_v (R_load Try.isAgg31 hB1_0 rfl rfl) ?_)
    refine L (D_v (R_fieldAddr Try.runUnderlying53 rfl Try.sizeOf31 rfl) ?_)
    refine L (D_v (R_load Try.isAgg31 hB1_1 rfl rfl) ?_)
    refine L (D_call (R_callF Try.call99 rfl rfl) (c99 (.slice (x).A (x).n (x).c) (.slice (y).A (y).n (y).c) ((x).sig) ((y).sig) _ (hx.fb (Fb.ext hE)).bs (hy.fb (Fb.ext hE)).bs) (fun w3_4 e3_4 => ?_))
    replace hE := hE.trans e3_4
    replace hB1_0 := hB1_0.ext e3_4
    replace hB1_1 := hB1_1.ext e3_4
    refine L (D_v (R_lssI rfl rfl) ?_)
    refine L (D_v (R_assign rfl) ?_)
    refine S_nil ?_
    refine T_tn ?_
    refine wp_ret ?_
    refine ret1 (v := .bool _) rfl rfl ⟨?_, hE⟩
    rw [lessP_eq hne]; exact congrArg (fun z => Ending.returned (Value.bool z)) (ltB_cmp _ _)

-- signed.Canonical$1
set_option maxRecDepth 4000 in
set_option maxHeartbeats 2000000 in
theorem c96 (lo : Nat) (i j aB0 : Nat) (v : Value) (xs : List Sg) (w : World) (hlo : lo ≤ w.heap.size) (hT : Blk w aB0 [v] 46) (h : Ls cS lo w v xs) (hi : i < xs.length) (hj : j < xs.length) : Calls Try.prog 96 [i64 ((i : Nat) : Int), i64 ((j : Nat) : Int), .pointer (some ⟨aB0, 0, none⟩)].toArray w (Ret w (.bool (lessP (xs.getD i Sg.zero).p (xs.getD j Sg.zero).p))) := by
  refine enter Try.func96 Try.ntmps96 rfl rfl ?_
  have hE := Ext.refl w
  refine wp_seq ?_
  refine W_region ?_
  refine L (D_v (R_assign rfl) ?_)
  refine S_nil ?_
  refine T_tn ?_
  refine wp_seq ?_
  refine W_draw mixed (by kernel_rfl) ?_
  refine Q_v (fun w hw => R_load Try.isAgg46 (hT.ext hw) rfl rfl) ?_
  refine Q_v (fun w hw => R_move rfl) ?_
  refine Q_v (fun w hw => R_elAddr (i := i) Try.underlying46 Try.sizeOf53 rfl rfl (h.ext (hE.trans hw)).1 (by (try simp only [List.length_take, List.length_drop, List.length_append, List.length_cons, List.length_nil, List.length_replicate, List.length_set, Nm.b_len, be2_len]); omega)) ?_
  refine Q_v (fun w hw => R_ldL (C := cS) (i := i) (y := ((xs).getD (i) Sg.zero)) Try.isAgg53 Try.sizeOf53 rfl (h.ext (hE.trans hw)) (getD_some (d := Sg.zero) (by (try simp only [List.length_take, List.length_drop, List.length_append, List.length_cons, List.length_nil, List.length_replicate, List.length_set, Nm.b_len, be2_len]); omega))) ?_
  refine Q_v (fun w hw => R_load Try.isAgg46 (hT.ext hw) rfl rfl) ?_
  refine Q_v (fun w hw => R_move rfl) ?_
  refine Q_v (fun w hw => R_elAddr (i := j) Try.underlying46 Try.sizeOf53 rfl rfl (h.ext (hE.trans hw)).1 (by (try simp only [List.length_take, List.length_drop, List.length_append, List.length_cons, List.length_nil, List.length_replicate, List.length_set, Nm.b_len, be2_len]); omega)) ?_
  refine Q_v (fun w hw => R_ldL (C := cS) (i := j) (y := ((xs).getD (j) Sg.zero)) Try.isAgg53 Try.sizeOf53 rfl (h.ext (hE.trans hw)) (getD_some (d := Sg.zero) (by (try simp only [List.length_take, List.length_drop, List.length_append, List.length_cons, List.length_nil, List.length_replicate, List.length_set, Nm.b_len, be2_len]); omega))) ?_
  refine Q_call (fun w hw => R_callF Try.call61 rfl rfl) (fun w hw => c61 (((xs).getD (i) Sg.zero)) (((xs).getD (j) Sg.zero)) _ (((h.get (getD_some (d := Sg.zero) (by (try simp only [List.length_take, List.length_drop, List.length_append, List.length_cons, List.length_nil, List.length_replicate, List.length_set, Nm.b_len, be2_len]); omega))).fb (Fb.ext (hE.trans hw))).up (Nat.le_trans hlo (hE.trans hw).size)) (((h.get (getD_some (d := Sg.zero) (by (try simp only [List.length_take, List.length_drop, List.length_append, List.length_cons, List.length_nil, List.length_replicate, List.length_set, Nm.b_len, be2_len]); omega))).fb (Fb.ext (hE.trans hw))).up (Nat.le_trans hlo (hE.trans hw).size))) ?_
  refine Q_v (fun w hw => R_assign rfl) ?_
  refine Q_nil (fun w2_99 e2_99 => ?_)
  replace hE := hE.trans e2_99
  replace hT := hT.ext e2_99
  refine T_tn ?_
  refine wp_ret ?_
  refine ret1 (v := .bool _) rfl rfl ⟨congrArg (fun b => Ending.returned (Value.bool b)) ?_, hE⟩
  exact rfl
end Go.Proofs.Yteeopgpgbdhmhaa
