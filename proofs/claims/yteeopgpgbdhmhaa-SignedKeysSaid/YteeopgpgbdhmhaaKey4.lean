/- What the law needs, part 4. No condition. -/
import Derived.Test.YteeopgpgbdhmhaaKey3
namespace Go.Proofs.Yteeopgpgbdhmhaa
open Go.RowKit
set_option linter.unusedVariables false
set_option linter.unusedSimpArgs false
attribute [local irreducible] wpList wpO H wpQuiet wpStill Code.wp Exit.then Exit.inBlock bodyPost Code.rounds Calls valid lessV hless num between
set_option maxRecDepth 4000 in
set_option maxHeartbeats 2000000 in
theorem c97 (n : Nm) (aM aK : Nat) (I : Int) (x : Nm) (w : World) (hTK : Blk w aK ((n).l ++ [i64 (2), .map (some aM)]) 108) (lim : Nat) (hM : Mt w aM n lim) (nKM : aK ≠ aM) : Calls Try.prog 97 [.pointer (some ⟨aK, 0, none⟩), i64 I, x.v].toArray w (RetX (fun w' => Chg aM w w') (fun r w' => ∃ q, r = .tuple #[q, .bool (decide (0 ≤ I) && decide (I < 1024))] ∧ OwnB w' w.heap.size q (sigI n I x))) := by
  refine enter Try.func97 Try.ntmps97 rfl rfl ?_
  have hE := Chg.refl aM w
  replace hM := hM.relim
  refine wp_seq ?_
  refine W_region ?_
  refine L (D_box (c := (x).l) (rfl) (fun aB1_0 w1_0 e1_0 gB1_0 hB1_0 => ?_))
  have lB1_0 := Nat.le_trans hE.size gB1_0
  have nKB1_0 := hTK.ne gB1_0
  have nMB1_0 := hM.ne gB1_0
  replace hE := hE.trans e1_0
  replace hTK := hTK.ext e1_0
  replace hM := hM.ext e1_0
  refine L (D_v (R_assign rfl) ?_)
  refine L (D_v (R_assign rfl) ?_)
  refine S_nil ?_
  refine T_tn ?_
  refine wp_seq ?_
  refine wp_seq ?_
  refine W_region ?_
  refine L (D_v (R_move rfl) ?_)
  refine L (D_call (R_callF Try.call128 rfl rfl) (c128 (n) aM aK _ hTK) (fun w2_1 e2_1 => ?_))
  replace hE := hE.trans e2_1
  replace hTK := hTK.ext e2_1
  replace hM := hM.ext e2_1
  replace hB1_0 := hB1_0.ext e2_1
  refine L (D_v (R_not rfl) ?_)
  refine L (D_v (R_move rfl) ?_)
  refine L (D_on rfl rfl (D_v (R_move rfl) ?_))
  refine L (D_on rfl rfl (D_v (R_lssI rfl rfl) ?_))
  refine L (D_v (R_pick rfl rfl rfl) ?_)
  refine L (D_v (R_move rfl) ?_)
  refine L (D_g1 rfl rfl (fun hb => R_move rfl) ?_)
  refine L (D_g1 rfl rfl (fun hb => R_move rfl) ?_)
  refine L (D_g1 rfl rfl (fun hb => R_nilCheck (cgE hb)) ?_)
  refine L (D_g1 rfl rfl (fun hb => R_fieldAddr Try.runUnderlying108 rfl Try.sizeOf3 (cgE hb)) ?_)
  refine L (D_g1 rfl rfl (fun hb => R_load Try.isAgg3 hTK (cgE hb) rfl) ?_)
  refine L (D_gc1 rfl rfl (fun hb => R_callF Try.call98 (mapv1 (cgE hb)) rfl) (fun hb => c98_2 _) (fun w2_13 e2_13 => ?_))
  replace hE := hE.trans e2_13
  replace hTK := hTK.ext e2_13
  replace hM := hM.ext e2_13
  replace hB1_0 := hB1_0.ext e2_13
  refine L (D_g1 rfl rfl (fun hb => R_geqI (cgE hb) (cgE hb)) ?_)
  refine L (D_v (R_pickO rfl rfl rfl) ?_)
  refine S_nil ?_
  refine T_tn ?_
  refine W_if rfl (fun c1 => ?_) (fun c1 => ?_)
  ·
    have hout : (decide (0 ≤ I) && decide (I < 1024)) = false := rng_no c1
    refine wp_seq ?_
    refine W_region ?_
    refine L (D_v (R_assign rfl) ?_)
    refine L (D_v (R_assign rfl) ?_)
    refine S_nil ?_
    refine T_tn ?_
    refine wp_ret ?_
    refine T_tr ?_
    refine ret2 (v := .slice none 0 0) (v2 := .bool false) rfl rfl rfl ⟨_, rfl, hE, .slice none 0 0, ?_, ?_⟩
    · rw [hout]
    · rw [sig_no hout]; exact OwnB.nil _ _
  ·
    have hin := rng_yes c1
    obtain ⟨f, rfl⟩ : ∃ f : Nat, I = ((f : Nat) : Int) := ⟨I.toNat, (Int.toNat_of_nonneg hin.1).symm⟩
    have hf : f < 1024 := by omega
    refine wp_skip ?_
    refine T_tn ?_
    refine wp_seq ?_
    refine W_region ?_
    refine L (D_v (R_move rfl) ?_)
    refine L (D_v (R_conv Try.runUnderlying3 Try.runUnderlying36 rfl) ?_)
    refine L (D_callE (R_callF Try.call86 rfl rfl) (c86_2 (Value.slice none 0 0) ([]) _ _ (OwnB.nil _ 0).bs (by (try simp only [List.length_take, List.length_drop, List.length_append, List.length_cons, List.length_nil, List.length_replicate, List.length_set, Nm.b_len, be2_len]); omega)) (fun v3_2 w3_2 e3_2 p3_2 => ?_))
    have o3_2 := p3_2
    replace o3_2 := o3_2.lo hE.size
    replace hE := hE.trans e3_2
    replace hTK := hTK.ext e3_2
    replace hM := hM.ext e3_2
    replace hB1_0 := hB1_0.ext e3_2
    refine L (D_v (R_assign rfl) ?_)
    refine S_nil ?_
    refine T_tn ?_
    refine wp_seq ?_
    refine W_region ?_
    refine L (D_v (R_move rfl) ?_)
    refine L (D_v (R_move rfl) ?_)
    refine L (D_v (R_move rfl) ?_)
    refine L (D_v (R_quoN (m := f) (j := 32) rfl rfl (by decide) (by (try simp only [List.length_take, List.length_drop, List.length_append, List.length_cons, List.length_nil, List.length_replicate, List.length_set, Nm.b_len, be2_len]); omega)) ?_)
    refine L (D_v (R_move rfl) ?_)
    refine L (D_v (R_remN (m := f) (j := 32) rfl rfl (by decide) (by (try simp only [List.length_take, List.length_drop, List.length_append, List.length_cons, List.length_nil, List.length_replicate, List.length_set, Nm.b_len, be2_len]); omega)) ?_)
    refine L (D_v (R_loadA (c := (x).l) Try.isAgg24 Try.sizeOf24 hB1_0 rfl rfl rfl) ?_)
    refine L (D_callX (R_callF Try.call129 rfl rfl) (c129 (n) (x) aM aK (1) ((f / 32)) ((f % 32)) w.heap.size v3_2 (([] ++ be2 (IntKind.wrap .u64 ((f : Nat) : Int)))) _ hTK _ hM nKM (by omega) (by omega) (by omega) hE.size (by simp only [List.length_append, List.length_nil, be2_len]; first | omega | (have h84 := partN_len n 1 (f / 32) (j := f % 32) x (by omega); omega)) o3_2) (fun v4_7 w4_7 p4_7 => ?_))
    obtain ⟨e4_7, hM4_7, o4_7, sp4_7⟩ := p4_7
    replace hE := hE.gx e4_7 (fun k hk => own_ge o3_2 hk)
    replace hTK := hTK.gx e4_7 nKM (own_neB o3_2 hTK rfl)
    replace hB1_0 := hB1_0.gx e4_7 nMB1_0.symm (own_neB o3_2 hB1_0 rfl)
    refine L (D_v (R_assign rfl) ?_)
    refine S_nil ?_
    refine T_tn ?_
    refine wp_seq ?_
    refine wp_seq ?_
    refine W_region ?_
    refine L (D_v (R_move rfl) ?_)
    refine L (D_v (R_nilCheck rfl) ?_)
    refine L (D_v (R_fieldAddr Try.runUnderlying108 rfl Try.sizeOf3 rfl) ?_)
    refine L (D_v (R_load Try.isAgg3 hTK rfl rfl) ?_)
    refine L (D_v (R_cast (v' := .bool true) (R_eqlI rfl rfl) rfl) ?_)
    refine S_nil ?_
    refine T_tn ?_
    refine W_ift rfl ?_
    refine W_region ?_
    refine L (D_v (R_move rfl) ?_)
    refine L (D_v (R_move rfl) ?_)
    refine L (D_v (R_move rfl) ?_)
    refine L (D_v (R_quoN (m := f) (j := 32) rfl rfl (by decide) (by (try simp only [List.length_take, List.length_drop, List.length_append, List.length_cons, List.length_nil, List.length_replicate, List.length_set, Nm.b_len, be2_len]); omega)) ?_)
    refine L (D_v (R_move rfl) ?_)
    refine L (D_v (R_move rfl) ?_)
    refine L (D_v (R_quoN (m := f) (j := 32) rfl rfl (by decide) (by (try simp only [List.length_take, List.length_drop, List.length_append, List.length_cons, List.length_nil, List.length_replicate, List.length_set, Nm.b_len, be2_len]); omega)) ?_)
    refine L (D_callX (R_callF Try.call131 rfl rfl) (c131 (n) aM aK (1) ((f / 32)) _ hTK _ hM4_7 nKM (by omega) (by omega)) (fun v6_7 w6_7 p6_7 => ?_))
    obtain ⟨e6_7, hM6_7, o6_7⟩ := p6_7
    replace hE := hE.chg e6_7
    have xo4_7 := own_neT o4_7 hM4_7
    replace hTK := hTK.chg e6_7 nKM
    replace o4_7 := OwnB.chg o4_7 e6_7 xo4_7
    replace o6_7 := Ow.lev (lo' := w.heap.size) o6_7 (fun _ _ _ => trivial)
    refine L (D_call (R_callF Try.call130 rfl rfl) (c130 32 v6_7 ((leavesN n (1) ((f / 32)))) _ (by rw [leavesN_len]; omega) (by rw [leavesN_len]; omega) (by rw [leavesN_len]; omega) (o6_7.ls.lev fun _ _ _ => trivial)) (fun w6_8 e6_8 => ?_))
    replace hE := hE.trans e6_8
    replace hTK := hTK.ext e6_8
    replace hM6_7 := hM6_7.ext e6_8
    replace o4_7 := o4_7.ext e6_8
    replace o6_7 := o6_7.ext e6_8
    refine L (D_callX (R_callF Try.call129 rfl rfl) (c129 (n) ((mroot 32 ((leavesN n (1) ((f / 32)))))) aM aK (2) (0) ((f / 32)) w.heap.size v4_7 ((([] ++ be2 (IntKind.wrap .u64 ((f : Nat) : Int))) ++ partN n (1) ((f / 32)) ((f % 32)) (x))) _ hTK _ hM6_7 nKM (by omega) (by omega) (by omega) hE.size (by simp only [List.length_append, List.length_nil, be2_len]; first | omega | (have h84 := partN_len n 1 (f / 32) (j := f % 32) x (by omega); omega)) o4_7) (fun v6_9 w6_9 p6_9 => ?_))
    obtain ⟨e6_9, hM6_9, o6_9, sp6_9⟩ := p6_9
    replace hE := hE.gx e6_9 (fun k hk => own_ge o4_7 hk)
    replace hTK := hTK.gx e6_9 nKM (own_neB o4_7 hTK rfl)
    refine L (D_v (R_assign rfl) ?_)
    refine S_nil ?_
    refine T_tn ?_
    refine wp_seq ?_
    refine W_region ?_
    refine L (D_v (R_move rfl) ?_)
    refine L (D_v (R_assign rfl) ?_)
    refine L (D_v (R_assign rfl) ?_)
    refine S_nil ?_
    refine T_tn ?_
    refine wp_ret ?_
    refine ret2 (v := v6_9) (v2 := .bool true) rfl rfl rfl ⟨_, rfl, hE, v6_9, ?_, ?_⟩
    · rw [rng_in hf]
    · rw [sig_in n x hf]; exact o6_9
set_option maxRecDepth 4000 in
set_option maxHeartbeats 1000000 in
theorem c59 (n : Nm) (aM aK : Nat) (I : Int) (x : Vt) (w : World) (hTK : Blk w aK ((n).l ++ [i64 (2), .map (some aM)]) 108) (lim : Nat) (hM : Mt w aM n lim) (nKM : aK ≠ aM) : Calls Try.prog 59 [.pointer (some ⟨aK, 0, none⟩), i64 I, x.v].toArray w (RetX (fun w' => Chg aM w w') (fun r w' => ∃ y : Sg, r = .tuple #[y.v, .bool (okL x I)] ∧ y.p = sgP n I x ∧ y.okf 0 w')) := by
  refine enter Try.func59 Try.ntmps59 rfl rfl ?_
  have hE := Chg.refl aM w
  replace hM := hM.relim
  refine wp_seq ?_
  refine W_region ?_
  refine L (D_box (c := (x).l) (rfl) (fun aB1_0 w1_0 e1_0 gB1_0 hB1_0 => ?_))
  have lB1_0 := Nat.le_trans hE.size gB1_0
  have nKB1_0 := hTK.ne gB1_0
  have nMB1_0 := hM.ne gB1_0
  replace hE := hE.trans e1_0
  replace hTK := hTK.ext e1_0
  replace hM := hM.ext e1_0
  refine L (D_alloc (c := (Sg.zero).l) Try.zeroValue53 rfl (fun aB1_1 w1_1 e1_1 gB1_1 hB1_1 => ?_))
  have lB1_1 := Nat.le_trans hE.size gB1_1
  have nKB1_1 := hTK.ne gB1_1
  have nMB1_1 := hM.ne gB1_1
  have nB1_0B1_1 := hB1_0.ne gB1_1
  replace hE := hE.trans e1_1
  replace hTK := hTK.ext e1_1
  replace hM := hM.ext e1_1
  replace hB1_0 := hB1_0.ext e1_1
  refine L (D_v (R_assign rfl) ?_)
  refine S_nil ?_
  refine T_tn ?_
  refine wp_seq ?_
  refine wp_seq ?_
  refine W_region ?_
  refine L (D_v (R_loadA (c := (x).l) Try.isAgg26 Try.sizeOf26 hB1_0 rfl rfl rfl) ?_)
  refine L (D_call (R_callF Try.call26 rfl rfl) (c26 (x) _ ) (fun w2_1 e2_1 => ?_))
  replace hE := hE.trans e2_1
  replace hTK := hTK.ext e2_1
  replace hM := hM.ext e2_1
  replace hB1_0 := hB1_0.ext e2_1
  replace hB1_1 := hB1_1.ext e2_1
  refine L (D_v (R_not rfl) ?_)
  refine S_nil ?_
  refine T_tn ?_
  refine W_if rfl (fun c1 => ?_) (fun c1 => ?_)
  ·
    have hok : okL x I = false := okL_nv c1
    refine wp_seq ?_
    refine W_region ?_
    refine L (D_v (R_buildS (c := Sg.zero.l) Try.runUnderlying53 places53 Try.zeroValue53 rfl rfl) ?_)
    have h0 := hB1_1
    refine L (D_storeA Try.sizeOf53 hB1_1 rfl rfl rfl rfl rfl (l' := (Sg.zero).l) rfl (fun w3_1 k3_1 hB1_1 => ?_))
    replace hE := hE.kpo k3_1 lB1_1
    replace hTK := hTK.kp k3_1 nKB1_1
    replace hM := hM.kp k3_1 nMB1_1 lB1_1
    refine L (D_v (R_assign rfl) ?_)
    refine S_nil ?_
    refine T_tn ?_
    refine wp_ret ?_
    refine T_tr ?_
    refine retct (c := (Sg.zero).l) (v2 := .bool false) rfl rfl rfl Try.isAgg53 Try.sizeOf53 hB1_1 rfl rfl ⟨_, rfl, hE, ?_⟩
    rw [hok]; exact ⟨Sg.zero, rfl, (sgP_no hok).symm, Sg.okz 0 _⟩
  ·
    have hv : valid x = true := by simpa using c1
    have hw59 := hE.size
    refine wp_skip ?_
    refine T_tn ?_
    refine wp_seq ?_
    refine W_region ?_
    refine L (D_v (R_move rfl) ?_)
    refine L (D_v (R_move rfl) ?_)
    refine L (D_v (R_loadA (c := (x).l) Try.isAgg26 Try.sizeOf26 hB1_0 rfl rfl rfl) ?_)
    refine L (D_call (R_callF Try.call36 rfl rfl) (c36 (x) _) (fun w3_3 e3_3 => ?_))
    replace hE := hE.trans e3_3
    replace hTK := hTK.ext e3_3
    replace hM := hM.ext e3_3
    replace hB1_0 := hB1_0.ext e3_3
    replace hB1_1 := hB1_1.ext e3_3
    refine L (D_callX (R_callF Try.call97 rfl rfl) (c97 (n) aM aK (I) ((nameV x)) _ hTK _ hM nKM) (fun v3_4 w3_4 p3_4 => ?_))
    obtain ⟨e3_4, q3_4, rfl, o3_4⟩ := p3_4
    have hsz := hE.size
    replace hE := hE.chg e3_4
    replace hTK := hTK.chg e3_4 nKM
    replace hB1_0 := hB1_0.chg e3_4 nMB1_0.symm
    replace hB1_1 := hB1_1.chg e3_4 nMB1_1.symm
    have hq := o3_4
    replace o3_4 := OwnB.lo o3_4 hsz
    refine L (D_v (R_move rfl) ?_)
    refine L (D_v (R_extract rfl rfl) ?_)
    refine L (D_v (R_extract rfl rfl) ?_)
    refine L (D_v (R_assign rfl) ?_)
    refine L (D_v (R_assign rfl) ?_)
    refine S_nil ?_
    refine T_tn ?_
    refine wp_seq ?_
    refine wp_seq ?_
    refine W_region ?_
    refine L (D_v (R_move rfl) ?_)
    refine L (D_v (R_not rfl) ?_)
    refine S_nil ?_
    refine T_tn ?_
    refine W_if rfl (fun c2 => ?_) (fun c2 => ?_)
    ·
      have hok : okL x I = false := okL_ni c2
      refine wp_seq ?_
      refine W_region ?_
      refine L (D_v (R_buildS (c := Sg.zero.l) Try.runUnderlying53 places53 Try.zeroValue53 rfl rfl) ?_)
      have h0 := hB1_1
      refine L (D_storeA Try.sizeOf53 hB1_1 rfl rfl rfl rfl rfl (l' := (Sg.zero).l) rfl (fun w5_1 k5_1 hB1_1 => ?_))
      replace hE := hE.kpo k5_1 lB1_1
      replace hTK := hTK.kp k5_1 nKB1_1
      refine L (D_v (R_assign rfl) ?_)
      refine S_nil ?_
      refine T_tn ?_
      refine wp_ret ?_
      refine T_tr ?_
      refine retct (c := (Sg.zero).l) (v2 := .bool false) rfl rfl rfl Try.isAgg53 Try.sizeOf53 hB1_1 rfl rfl ⟨_, rfl, hE, ?_⟩
      rw [hok]; exact ⟨Sg.zero, rfl, (sgP_no hok).symm, Sg.okz 0 _⟩
    ·
      have hok : okL x I = true := okL_y hv c2
      refine wp_skip ?_
      refine T_tn ?_
      refine wp_seq ?_
      refine W_region ?_
      refine L (D_v (R_loadA (c := (x).l) Try.isAgg26 Try.sizeOf26 hB1_0 rfl rfl rfl) ?_)
      refine L (D_v (R_move rfl) ?_)
      have k5_2 : Sg.okf w.heap.size w3_4 (mkSg (x) q3_4 (sigI n (I) ((nameV x)))) := mkSg_ok _ (Bf.own o3_4)
      refine L (D_v (R_buildS (vs := [(0, .agg (x).l.toArray), (1, q3_4)]) (c := (mkSg (x) q3_4 (sigI n (I) ((nameV x)))).l) Try.runUnderlying53 places53 Try.zeroValue53 (mapp2 rfl rfl) (fill53 _ o3_4.bs)) ?_)
      have xo3_4 := own_neB o3_4 hB1_1 rfl
      have h0 := hB1_1
      refine L (D_storeA Try.sizeOf53 hB1_1 rfl rfl rfl rfl rfl (l' := ((mkSg (x) q3_4 (sigI n (I) ((nameV x))))).l) rfl (fun w5_3 k5_3 hB1_1 => ?_))
      have f5_3 := Fb.kp k5_3 (Nat.le_trans (Nat.le_refl _) lB1_1) (Blk.notB h0 rfl)
      replace hE := hE.kpo k5_3 lB1_1
      replace hTK := hTK.kp k5_3 nKB1_1
      replace hB1_0 := hB1_0.kp k5_3 nB1_0B1_1
      replace o3_4 := o3_4.kp k5_3 xo3_4
      replace k5_2 := k5_2.fb f5_3
      refine L (D_v (R_assign rfl) ?_)
      refine S_nil ?_
      refine T_tn ?_
      refine wp_ret ?_
      refine retct (c := ((mkSg (x) q3_4 (sigI n (I) ((nameV x))))).l) (v2 := .bool true) rfl rfl rfl Try.isAgg53 Try.sizeOf53 hB1_1 rfl rfl ⟨_, rfl, hE, ?_⟩
      rw [hok]; exact ⟨(mkSg (x) q3_4 (sigI n (I) ((nameV x)))), rfl, (sgP_y hok).symm, mkSg_ok _ (Bf.own o3_4)⟩
set_option maxRecDepth 4000 in
set_option maxHeartbeats 1000000 in
theorem c60t (n : Nm) (w : World) : Calls Try.prog 60 [n.v, i64 2].toArray w (RetE w fun r w' => ∃ g m, r = .pointer (some ⟨g, 0, none⟩) ∧ w.heap.size ≤ g ∧ w.heap.size ≤ m ∧ g ≠ m ∧ Blk w' g ((n).l ++ [i64 (2), .map (some m)]) 108 ∧ Mt w' m n w'.heap.size) := by
  refine enter Try.func60 Try.ntmps60 rfl rfl ?_
  have hE := Ext.refl w
  refine wp_seq ?_
  refine W_region ?_
  refine L (D_box (c := (n).l) (rfl) (fun aB1_0 w1_0 e1_0 gB1_0 hB1_0 => ?_))
  have lB1_0 := Nat.le_trans hE.size gB1_0
  replace hE := hE.trans e1_0
  refine L (D_v (R_assign rfl) ?_)
  refine S_nil ?_
  refine T_tn ?_
  refine wp_seq ?_
  refine wp_seq ?_
  refine W_region ?_
  refine L (D_v (R_move rfl) ?_)
  refine L (D_call (R_callF Try.call98 rfl rfl) (c98_2 _) (fun w2_1 e2_1 => ?_))
  replace hE := hE.trans e2_1
  replace hB1_0 := hB1_0.ext e2_1
  refine L (D_v (R_cast (v' := .bool false) (R_eqlI rfl rfl) rfl) ?_)
  refine S_nil ?_
  refine T_tn ?_
  refine W_iff rfl ?_
  refine wp_skip ?_
  refine T_tn ?_
  refine wp_seq ?_
  refine W_region ?_
  refine L (D_v (R_loadA (c := (n).l) Try.isAgg24 Try.sizeOf24 hB1_0 rfl rfl rfl) ?_)
  refine L (D_v (R_move rfl) ?_)
  refine L (D_makeMap (fun aM3_2 w3_2 e3_2 gM3_2 zM3_2 => ?_))
  have hM3_2 := Mt.new (n := n) zM3_2
  have lM3_2 := Nat.le_trans hE.size gM3_2
  have nB1_0M3_2 := hB1_0.ne gM3_2
  replace hE := hE.trans e3_2
  replace hB1_0 := hB1_0.ext e3_2
  refine L (D_v (R_buildS (vs := [(0, .agg (n).l.toArray), (1, i64 (2)), (2, .map (some aM3_2))]) (c := (n).l ++ [i64 (2), .map (some aM3_2)]) Try.runUnderlying108 places108 Try.zeroValue108 rfl (fill108 _ _ _)) ?_)
  refine L (D_box (c := (n).l ++ [i64 (2), .map (some aM3_2)]) (rfl) (fun aB3_4 w3_4 e3_4 gB3_4 hB3_4 => ?_))
  have lB3_4 := Nat.le_trans hE.size gB3_4
  have nB1_0B3_4 := hB1_0.ne gB3_4
  have nM3_2B3_4 := hM3_2.ne gB3_4
  replace hE := hE.trans e3_4
  replace hB1_0 := hB1_0.ext e3_4
  replace hM3_2 := hM3_2.ext e3_4
  refine L (D_v (R_assign rfl) ?_)
  refine S_nil ?_
  refine T_tn ?_
  refine wp_ret ?_
  refine ret1 (v := _) rfl rfl ⟨_, rfl, hE, ?_⟩
  exact ⟨aB3_4, aM3_2, rfl, lB3_4, lM3_2, nM3_2B3_4.symm, hB3_4, hM3_2.relim⟩
set_option maxRecDepth 4000 in
set_option maxHeartbeats 2000000 in
theorem c53 (n : Nm) (I : Int) (x : Vt) (w : World) : Calls Try.prog 53 [n.v, i64 I, x.v].toArray w (RetE w fun r w' => ∃ y : Sg, r = .tuple #[y.v, .bool (okL x I)] ∧ y.p = sgP n I x ∧ y.okf 0 w') := by
  refine enter Try.func53 Try.ntmps53 rfl rfl ?_
  have hE := Ext.refl w
  refine wp_seq ?_
  refine W_region ?_
  refine L (D_box (c := (n).l) (rfl) (fun aB1_0 w1_0 e1_0 gB1_0 hB1_0 => ?_))
  have lB1_0 := Nat.le_trans hE.size gB1_0
  replace hE := hE.trans e1_0
  refine L (D_box (c := (x).l) (rfl) (fun aB1_1 w1_1 e1_1 gB1_1 hB1_1 => ?_))
  have lB1_1 := Nat.le_trans hE.size gB1_1
  have nB1_0B1_1 := hB1_0.ne gB1_1
  replace hE := hE.trans e1_1
  replace hB1_0 := hB1_0.ext e1_1
  refine L (D_alloc (c := (Sg.zero).l) Try.zeroValue53 rfl (fun aB1_2 w1_2 e1_2 gB1_2 hB1_2 => ?_))
  have lB1_2 := Nat.le_trans hE.size gB1_2
  have nB1_0B1_2 := hB1_0.ne gB1_2
  have nB1_1B1_2 := hB1_1.ne gB1_2
  replace hE := hE.trans e1_2
  replace hB1_0 := hB1_0.ext e1_2
  replace hB1_1 := hB1_1.ext e1_2
  refine L (D_v (R_assign rfl) ?_)
  refine S_nil ?_
  refine T_tn ?_
  refine wp_seq ?_
  refine W_held (fun W => Ext w W ∧ Blk W aB1_0 ((n).l) 24 ∧ Blk W aB1_1 ((x).l) 26 ∧ True) mixed (fun w2_99 e2_99 => ?_)
  replace hE := hE.trans e2_99
  replace hB1_0 := hB1_0.ext e2_99
  replace hB1_1 := hB1_1.ext e2_99
  replace hB1_2 := hB1_2.ext e2_99
  refine H_take (i := 0) rfl (by kernel_rfl) (by kernel_rfl) (by kernel_rfl) rfl (pq_then pq_body) ⟨hE, hB1_0, hB1_1, trivial⟩ rfl (fun w hw => R_loadA (c := (n).l) Try.isAgg24 Try.sizeOf24 hw.2.1 rfl rfl rfl) ?_
  refine H_take (i := 2) rfl (by kernel_rfl) (by kernel_rfl) (by kernel_rfl) rfl (pq_then pq_body) ⟨hE, hB1_0, hB1_1, trivial⟩ rfl (fun w hw => R_move rfl) ?_
  refine H_take (i := 3) rfl (by kernel_rfl) (by kernel_rfl) (by kernel_rfl) rfl (pq_then pq_body) ⟨hE, hB1_0, hB1_1, trivial⟩ rfl (fun w hw => R_loadA (c := (x).l) Try.isAgg26 Try.sizeOf26 hw.2.2.1 rfl rfl rfl) ?_
  refine H_op (i := 1) (by kernel_rfl) rfl rfl (D_callE (R_callF Try.call60 rfl rfl) (c60t (n) _) (fun v2_1 w2_1 e2_1 p2_1 => ?_))
  obtain ⟨aK2_1, aM2_1, rfl, gK2_1, gM2_1, nK2_1M2_1, hK2_1, hM2_1⟩ := p2_1
  have lK2_1 := Nat.le_trans hE.size gK2_1
  have nB1_0K2_1 := hB1_0.ne gK2_1
  have nB1_1K2_1 := hB1_1.ne gK2_1
  have nB1_2K2_1 := hB1_2.ne gK2_1
  have lM2_1 := Nat.le_trans hE.size gM2_1
  have nB1_0M2_1 := hB1_0.ne gM2_1
  have nB1_1M2_1 := hB1_1.ne gM2_1
  have nB1_2M2_1 := hB1_2.ne gM2_1
  replace hE := hE.trans e2_1
  replace hB1_0 := hB1_0.ext e2_1
  replace hB1_1 := hB1_1.ext e2_1
  replace hB1_2 := hB1_2.ext e2_1
  refine ⟨⟨hE, hB1_0, hB1_1, trivial⟩, ?_⟩
  refine H_op (i := 4) (by kernel_rfl) rfl rfl (D_callX (R_callF Try.call59 rfl rfl) (c59 (n) aM2_1 aK2_1 (I) (x) _ hK2_1 _ hM2_1 nK2_1M2_1) (fun v2_4 w2_4 p2_4 => ?_))
  obtain ⟨e2_4, y2_4, rfl, py2_4, k2_4⟩ := p2_4
  replace hE := hE.chg e2_4 lM2_1
  replace hB1_0 := hB1_0.chg e2_4 nB1_0M2_1
  replace hB1_1 := hB1_1.chg e2_4 nB1_1M2_1
  replace hB1_2 := hB1_2.chg e2_4 nB1_2M2_1
  replace hK2_1 := hK2_1.chg e2_4 nK2_1M2_1
  refine ⟨⟨hE, hB1_0, hB1_1, trivial⟩, ?_⟩
  refine H_take (i := 5) rfl (by kernel_rfl) (by kernel_rfl) (by kernel_rfl) rfl (pq_then pq_body) ⟨hE, hB1_0, hB1_1, trivial⟩ rfl (fun w hw => R_extract rfl rfl) ?_
  refine H_take (i := 6) rfl (by kernel_rfl) (by kernel_rfl) (by kernel_rfl) rfl (pq_then pq_body) ⟨hE, hB1_0, hB1_1, trivial⟩ rfl (fun w hw => R_extract rfl rfl) ?_
  have h0 := hB1_2
  refine H_op (i := 7) (by kernel_rfl) rfl rfl (D_storeA Try.sizeOf53 hB1_2 rfl rfl rfl rfl rfl (l' := (y2_4).l) rfl (fun w2_7 k2_7 hB1_2 => ?_))
  have f2_7 := Fb.kp k2_7 (Nat.le_trans (Nat.le_refl _) lB1_2) (Blk.notB h0 rfl)
  replace hE := hE.kp k2_7 lB1_2
  replace hB1_0 := hB1_0.kp k2_7 nB1_0B1_2
  replace hB1_1 := hB1_1.kp k2_7 nB1_1B1_2
  replace k2_4 := k2_4.fb (Fb.kp k2_7 (Nat.zero_le _) (Blk.notB h0 rfl))
  refine ⟨⟨hE, hB1_0, hB1_1, trivial⟩, ?_⟩
  refine H_take (i := 8) rfl (by kernel_rfl) (by kernel_rfl) (by kernel_rfl) rfl (pq_then pq_body) ⟨hE, hB1_0, hB1_1, trivial⟩ rfl (fun w hw => R_assign rfl) ?_
  refine H_done (by kernel_rfl) ?_
  refine T_tn ?_
  refine wp_ret ?_
  refine retct (c := (y2_4).l) (v2 := .bool (okL (x) (I))) rfl rfl rfl Try.isAgg53 Try.sizeOf53 hB1_2 rfl rfl ⟨_, rfl, hE, ?_⟩
  exact ⟨y2_4, rfl, py2_4, k2_4⟩
set_option maxRecDepth 4000 in
set_option maxHeartbeats 2000000 in
theorem c128_nil  (w : World) : Calls Try.prog 128 [.pointer none].toArray w (Ret w (.bool false)) := by
  refine enter Try.func128 Try.ntmps128 rfl rfl ?_
  have hE := Ext.refl w
  refine wp_seq ?_
  refine W_region ?_
  refine L (D_v (R_assign rfl) ?_)
  refine S_nil ?_
  refine T_tn ?_
  refine wp_seq ?_
  refine W_region ?_
  refine L (D_v (R_move rfl) ?_)
  refine L (D_v (R_ptrNil rfl rfl) ?_)
  refine L (D_v (R_move rfl) ?_)
  refine L (D_off rfl rfl ?_)
  refine L (D_off rfl rfl ?_)
  refine L (D_off rfl rfl ?_)
  refine L (D_off rfl rfl ?_)
  refine L (D_off rfl rfl ?_)
  refine L (D_v (R_cast (v' := .bool false) (R_pick rfl rfl rfl) rfl) ?_)
  refine L (D_v (R_assign rfl) ?_)
  refine S_nil ?_
  refine T_tn ?_
  refine wp_ret ?_
  refine ret1 (v := .bool _) rfl rfl ⟨congrArg (fun b => Ending.returned (Value.bool b)) ?_, hE⟩
  rfl
set_option maxRecDepth 4000 in
set_option maxHeartbeats 2000000 in
theorem c97_nil (I : Int) (x : Nm) (w : World) : Calls Try.prog 97 [.pointer none, i64 I, x.v].toArray w (Ret w (.tuple #[.slice none 0 0, .bool false])) := by
  refine enter Try.func97 Try.ntmps97 rfl rfl ?_
  have hE := Ext.refl w
  refine wp_seq ?_
  refine W_region ?_
  refine L (D_box (c := (x).l) (rfl) (fun aB1_0 w1_0 e1_0 gB1_0 hB1_0 => ?_))
  have lB1_0 := Nat.le_trans hE.size gB1_0
  replace hE := hE.trans e1_0
  refine L (D_v (R_assign rfl) ?_)
  refine L (D_v (R_assign rfl) ?_)
  refine S_nil ?_
  refine T_tn ?_
  refine wp_seq ?_
  refine wp_seq ?_
  refine W_region ?_
  refine L (D_v (R_move rfl) ?_)
  refine L (D_call (R_callF Try.call128 rfl rfl) (c128_nil _) (fun w2_1 e2_1 => ?_))
  replace hE := hE.trans e2_1
  replace hB1_0 := hB1_0.ext e2_1
  refine L (D_v (R_not rfl) ?_)
  refine L (D_v (R_move rfl) ?_)
  refine L (D_off rfl rfl ?_)
  refine L (D_off rfl rfl ?_)
  refine L (D_v (R_cast (v' := .bool true) (R_pick rfl rfl rfl) rfl) ?_)
  refine L (D_v (R_move rfl) ?_)
  refine L (D_off rfl rfl ?_)
  refine L (D_off rfl rfl ?_)
  refine L (D_off rfl rfl ?_)
  refine L (D_off rfl rfl ?_)
  refine L (D_off rfl rfl ?_)
  refine L (D_off rfl rfl ?_)
  refine L (D_off rfl rfl ?_)
  refine L (D_v (R_cast (v' := .bool true) (R_pick rfl rfl rfl) rfl) ?_)
  refine S_nil ?_
  refine T_tn ?_
  refine W_ift rfl ?_
  refine wp_seq ?_
  refine W_region ?_
  refine L (D_v (R_assign rfl) ?_)
  refine L (D_v (R_assign rfl) ?_)
  refine S_nil ?_
  refine T_tn ?_
  refine wp_ret ?_
  refine T_tr ?_
  refine ret2 (v := _) (v2 := .bool _) rfl rfl rfl ⟨?_, hE⟩
  rfl
set_option maxRecDepth 4000 in
set_option maxHeartbeats 2000000 in
theorem c59_nil (I : Int) (x : Vt) (w : World) : Calls Try.prog 59 [.pointer none, i64 I, x.v].toArray w (Ret w (.tuple #[Sg.zero.v, .bool false])) := by
  refine enter Try.func59 Try.ntmps59 rfl rfl ?_
  have hE := Ext.refl w
  refine wp_seq ?_
  refine W_region ?_
  refine L (D_box (c := (x).l) (rfl) (fun aB1_0 w1_0 e1_0 gB1_0 hB1_0 => ?_))
  have lB1_0 := Nat.le_trans hE.size gB1_0
  replace hE := hE.trans e1_0
  refine L (D_alloc (c := (Sg.zero).l) Try.zeroValue53 rfl (fun aB1_1 w1_1 e1_1 gB1_1 hB1_1 => ?_))
  have lB1_1 := Nat.le_trans hE.size gB1_1
  have nB1_0B1_1 := hB1_0.ne gB1_1
  replace hE := hE.trans e1_1
  replace hB1_0 := hB1_0.ext e1_1
  refine L (D_v (R_assign rfl) ?_)
  refine S_nil ?_
  refine T_tn ?_
  refine wp_seq ?_
  refine wp_seq ?_
  refine W_region ?_
  refine L (D_v (R_loadA (c := (x).l) Try.isAgg26 Try.sizeOf26 hB1_0 rfl rfl rfl) ?_)
  refine L (D_call (R_callF Try.call26 rfl rfl) (c26 (x) _ ) (fun w2_1 e2_1 => ?_))
  replace hE := hE.trans e2_1
  replace hB1_0 := hB1_0.ext e2_1
  replace hB1_1 := hB1_1.ext e2_1
  refine L (D_v (R_not rfl) ?_)
  refine S_nil ?_
  refine T_tn ?_
  refine W_if rfl (fun c1 => ?_) (fun c1 => ?_)
  ·
    refine wp_seq ?_
    refine W_region ?_
    refine L (D_v (R_buildS (c := Sg.zero.l) Try.runUnderlying53 places53 Try.zeroValue53 rfl rfl) ?_)
    have h0 := hB1_1
    refine L (D_storeA Try.sizeOf53 hB1_1 rfl rfl rfl rfl rfl (l' := (Sg.zero).l) rfl (fun w3_1 k3_1 hB1_1 => ?_))
    replace hE := hE.kp k3_1 lB1_1
    refine L (D_v (R_assign rfl) ?_)
    refine S_nil ?_
    refine T_tn ?_
    refine wp_ret ?_
    refine T_tr ?_
    refine retct (c := (Sg.zero).l) (v2 := .bool false) rfl rfl rfl Try.isAgg53 Try.sizeOf53 hB1_1 rfl rfl ⟨?_, hE⟩
    rfl
  ·
    refine wp_skip ?_
    refine T_tn ?_
    refine wp_seq ?_
    refine W_region ?_
    refine L (D_v (R_move rfl) ?_)
    refine L (D_v (R_move rfl) ?_)
    refine L (D_v (R_loadA (c := (x).l) Try.isAgg26 Try.sizeOf26 hB1_0 rfl rfl rfl) ?_)
    refine L (D_call (R_callF Try.call36 rfl rfl) (c36 (x) _) (fun w3_3 e3_3 => ?_))
    replace hE := hE.trans e3_3
    replace hB1_0 := hB1_0.ext e3_3
    replace hB1_1 := hB1_1.ext e3_3
    refine L (D_call (R_callF Try.call97 rfl rfl) (c97_nil (I) ((nameV x)) _) (fun w3_4 e3_4 => ?_))
    replace hE := hE.trans e3_4
    replace hB1_0 := hB1_0.ext e3_4
    replace hB1_1 := hB1_1.ext e3_4
    refine L (D_v (R_move rfl) ?_)
    refine L (D_v (R_extract rfl rfl) ?_)
    refine L (D_v (R_extract rfl rfl) ?_)
    refine L (D_v (R_assign rfl) ?_)
    refine L (D_v (R_assign rfl) ?_)
    refine S_nil ?_
    refine T_tn ?_
    refine wp_seq ?_
    refine wp_seq ?_
    refine W_region ?_
    refine L (D_v (R_move rfl) ?_)
    refine L (D_v (R_not rfl) ?_)
    refine S_nil ?_
    refine T_tn ?_
    refine W_ift rfl ?_
    refine wp_seq ?_
    refine W_region ?_
    refine L (D_v (R_buildS (c := Sg.zero.l) Try.runUnderlying53 places53 Try.zeroValue53 rfl rfl) ?_)
    have h0 := hB1_1
    refine L (D_storeA Try.sizeOf53 hB1_1 rfl rfl rfl rfl rfl (l' := (Sg.zero).l) rfl (fun w5_1 k5_1 hB1_1 => ?_))
    replace hE := hE.kp k5_1 lB1_1
    refine L (D_v (R_assign rfl) ?_)
    refine S_nil ?_
    refine T_tn ?_
    refine wp_ret ?_
    refine T_tr ?_
    refine retct (c := (Sg.zero).l) (v2 := .bool false) rfl rfl rfl Try.isAgg53 Try.sizeOf53 hB1_1 rfl rfl ⟨?_, hE⟩
    rfl
end Go.Proofs.Yteeopgpgbdhmhaa
namespace Go.Proofs.Yteeopgpgbdhmhaa
open Go.RowKit
set_option linter.unusedVariables false
set_option linter.unusedSimpArgs false
attribute [local irreducible] wpList wpO H wpQuiet wpStill Code.wp Exit.then Exit.inBlock bodyPost Code.rounds Calls valid lessV hless num between
set_option maxRecDepth 4000 in
set_option maxHeartbeats 4000000 in
theorem c16 (n : Nm) (I : Int) (x : Vt) (w : World) : Calls Try.prog 16 [n.v, i64 I, x.v].toArray w (Ret w (.bool true)) := by
  refine enter Try.func16 Try.ntmps16 rfl rfl ?_
  have hE := Ext.refl w
  refine wp_seq ?_
  refine W_region ?_
  refine L (D_box (c := (n).l) (rfl) (fun aB1_0 w1_0 e1_0 gB1_0 hB1_0 => ?_))
  have lB1_0 := Nat.le_trans hE.size gB1_0
  replace hE := hE.trans e1_0
  refine L (D_box (c := (x).l) (rfl) (fun aB1_1 w1_1 e1_1 gB1_1 hB1_1 => ?_))
  have lB1_1 := Nat.le_trans hE.size gB1_1
  have nB1_0B1_1 := hB1_0.ne gB1_1
  replace hE := hE.trans e1_1
  replace hB1_0 := hB1_0.ext e1_1
  refine L (D_v (R_assign rfl) ?_)
  refine S_nil ?_
  refine T_tn ?_
  refine wp_seq ?_
  refine W_cut (R := fun g W => ∃ (y2_4 : Sg) (aB2_8 : Nat), (g 1 = i64 I) ∧ (g 3 = .pointer (some ⟨aB1_0, 0, none⟩)) ∧ (g 5 = .pointer (some ⟨aB1_1, 0, none⟩)) ∧ (g 7 = .pointer (some ⟨aB2_8, 0, none⟩)) ∧ (g 8 = .bool (okL (x) (I))) ∧ Ext w W ∧ Blk W aB1_0 ((n).l) 24 ∧ Blk W aB1_1 ((x).l) 26 ∧ Blk W aB2_8 ((y2_4).l) 53 ∧ w.heap.size ≤ aB2_8 ∧ aB1_0 ≠ aB2_8 ∧ aB1_1 ≠ aB2_8 ∧ Sg.okf 0 W y2_4 ∧ (y2_4.p = sgP n (I) (x))) ?_ ?_
  ·
    refine W_held (fun W => Ext w W ∧ Blk W aB1_0 ((n).l) 24 ∧ Blk W aB1_1 ((x).l) 26 ∧ True) mixed (fun w2_99 e2_99 => ?_)
    replace hE := hE.trans e2_99
    replace hB1_0 := hB1_0.ext e2_99
    replace hB1_1 := hB1_1.ext e2_99
    refine H_take (i := 0) rfl (by kernel_rfl) (by kernel_rfl) (by kernel_rfl) rfl pq_cut ⟨hE, hB1_0, hB1_1, trivial⟩ rfl (fun w hw => R_loadA (c := (n).l) Try.isAgg24 Try.sizeOf24 hw.2.1 rfl rfl rfl) ?_
    refine H_take (i := 2) rfl (by kernel_rfl) (by kernel_rfl) (by kernel_rfl) rfl pq_cut ⟨hE, hB1_0, hB1_1, trivial⟩ rfl (fun w hw => R_move rfl) ?_
    refine H_take (i := 3) rfl (by kernel_rfl) (by kernel_rfl) (by kernel_rfl) rfl pq_cut ⟨hE, hB1_0, hB1_1, trivial⟩ rfl (fun w hw => R_loadA (c := (x).l) Try.isAgg26 Try.sizeOf26 hw.2.2.1 rfl rfl rfl) ?_
    refine H_op2 (i := 1) (i2 := 8) (by kernel_rfl) rfl rfl rfl rfl ?_ ?_
    ·
      refine D_callE (R_callF Try.call60 rfl rfl) (c60t (n) _) (fun v2_1 w2_1 e2_1 p2_1 => ?_)
      obtain ⟨aK2_1, aM2_1, rfl, gK2_1, gM2_1, nK2_1M2_1, hK2_1, hM2_1⟩ := p2_1
      have lK2_1 := Nat.le_trans hE.size gK2_1
      have nB1_0K2_1 := hB1_0.ne gK2_1
      have nB1_1K2_1 := hB1_1.ne gK2_1
      have lM2_1 := Nat.le_trans hE.size gM2_1
      have nB1_0M2_1 := hB1_0.ne gM2_1
      have nB1_1M2_1 := hB1_1.ne gM2_1
      replace hE := hE.trans e2_1
      replace hB1_0 := hB1_0.ext e2_1
      replace hB1_1 := hB1_1.ext e2_1
      refine ⟨⟨hE, hB1_0, hB1_1, trivial⟩, ?_⟩
      refine H_op2 (i := 4) (i2 := 8) (by kernel_rfl) rfl rfl rfl rfl ?_ ?_
      ·
        refine D_callX (R_callF Try.call59 rfl rfl) (c59 (n) aM2_1 aK2_1 (I) (x) _ hK2_1 _ hM2_1 nK2_1M2_1) (fun v2_4 w2_4 p2_4 => ?_)
        obtain ⟨e2_4, y2_4, rfl, py2_4, k2_4⟩ := p2_4
        replace hE := hE.chg e2_4 lM2_1
        replace hB1_0 := hB1_0.chg e2_4 nB1_0M2_1
        replace hB1_1 := hB1_1.chg e2_4 nB1_1M2_1
        replace hK2_1 := hK2_1.chg e2_4 nK2_1M2_1
        refine ⟨⟨hE, hB1_0, hB1_1, trivial⟩, ?_⟩
        refine H_take (i := 5) rfl (by kernel_rfl) (by kernel_rfl) (by kernel_rfl) rfl pq_cut ⟨hE, hB1_0, hB1_1, trivial⟩ rfl (fun w hw => R_move rfl) ?_
        refine H_take (i := 6) rfl (by kernel_rfl) (by kernel_rfl) (by kernel_rfl) rfl pq_cut ⟨hE, hB1_0, hB1_1, trivial⟩ rfl (fun w hw => R_extract rfl rfl) ?_
        refine H_take (i := 7) rfl (by kernel_rfl) (by kernel_rfl) (by kernel_rfl) rfl pq_cut ⟨hE, hB1_0, hB1_1, trivial⟩ rfl (fun w hw => R_extract rfl rfl) ?_
        refine H_op (i := 8) (by kernel_rfl) rfl rfl (D_alloc (c := (Sg.zero).l) Try.zeroValue53 rfl (fun aB2_8 w2_8 e2_8 gB2_8 hB2_8 => ?_))
        have lB2_8 := Nat.le_trans hE.size gB2_8
        have nB1_0B2_8 := hB1_0.ne gB2_8
        have nB1_1B2_8 := hB1_1.ne gB2_8
        replace hE := hE.trans e2_8
        replace hB1_0 := hB1_0.ext e2_8
        replace hB1_1 := hB1_1.ext e2_8
        replace k2_4 := k2_4.fb (Fb.ext e2_8)
        refine ⟨⟨hE, hB1_0, hB1_1, trivial⟩, ?_⟩
        have h0 := hB2_8
        refine H_op (i := 9) (by kernel_rfl) rfl rfl (D_storeA Try.sizeOf53 hB2_8 rfl rfl rfl rfl rfl (l' := (y2_4).l) rfl (fun w2_9 k2_9 hB2_8 => ?_))
        have f2_9 := Fb.kp k2_9 (Nat.le_trans (Nat.le_refl _) lB2_8) (Blk.notB h0 rfl)
        replace hE := hE.kp k2_9 lB2_8
        replace hB1_0 := hB1_0.kp k2_9 nB1_0B2_8
        replace hB1_1 := hB1_1.kp k2_9 nB1_1B2_8
        replace k2_4 := k2_4.fb (Fb.kp k2_9 (Nat.zero_le _) (Blk.notB h0 rfl))
        refine ⟨⟨hE, hB1_0, hB1_1, trivial⟩, ?_⟩
        refine H_take (i := 10) rfl (by kernel_rfl) (by kernel_rfl) (by kernel_rfl) rfl pq_cut ⟨hE, hB1_0, hB1_1, trivial⟩ rfl (fun w hw => R_assign rfl) ?_
        refine H_done (by kernel_rfl) ?_
        exact ⟨rfl, _, rfl, _, _, rfl, rfl, rfl, rfl, rfl, hE, hB1_0, hB1_1, hB2_8, lB2_8, nB1_0B2_8, nB1_1B2_8, k2_4, py2_4⟩
      ·
        refine D_alloc (c := (Sg.zero).l) Try.zeroValue53 rfl (fun aB2_8 w2_8 e2_8 gB2_8 hB2_8 => ?_)
        have lB2_8 := Nat.le_trans hE.size gB2_8
        have nB1_0B2_8 := hB1_0.ne gB2_8
        have nB1_1B2_8 := hB1_1.ne gB2_8
        have nK2_1B2_8 := hK2_1.ne gB2_8
        have nM2_1B2_8 := hM2_1.ne gB2_8
        replace hE := hE.trans e2_8
        replace hB1_0 := hB1_0.ext e2_8
        replace hB1_1 := hB1_1.ext e2_8
        replace hK2_1 := hK2_1.ext e2_8
        replace hM2_1 := hM2_1.ext e2_8
        refine ⟨⟨hE, hB1_0, hB1_1, trivial⟩, ?_⟩
        refine H_op (i := 4) (by kernel_rfl) rfl rfl (D_callX (R_callF Try.call59 rfl rfl) (c59 (n) aM2_1 aK2_1 (I) (x) _ hK2_1 _ hM2_1 nK2_1M2_1) (fun v2_4 w2_4 p2_4 => ?_))
        obtain ⟨e2_4, y2_4, rfl, py2_4, k2_4⟩ := p2_4
        replace hE := hE.chg e2_4 lM2_1
        replace hB1_0 := hB1_0.chg e2_4 nB1_0M2_1
        replace hB1_1 := hB1_1.chg e2_4 nB1_1M2_1
        replace hK2_1 := hK2_1.chg e2_4 nK2_1M2_1
        replace hB2_8 := hB2_8.chg e2_4 nM2_1B2_8.symm
        refine ⟨⟨hE, hB1_0, hB1_1, trivial⟩, ?_⟩
        refine H_take (i := 5) rfl (by kernel_rfl) (by kernel_rfl) (by kernel_rfl) rfl pq_cut ⟨hE, hB1_0, hB1_1, trivial⟩ rfl (fun w hw => R_move rfl) ?_
        refine H_take (i := 6) rfl (by kernel_rfl) (by kernel_rfl) (by kernel_rfl) rfl pq_cut ⟨hE, hB1_0, hB1_1, trivial⟩ rfl (fun w hw => R_extract rfl rfl) ?_
        refine H_take (i := 7) rfl (by kernel_rfl) (by kernel_rfl) (by kernel_rfl) rfl pq_cut ⟨hE, hB1_0, hB1_1, trivial⟩ rfl (fun w hw => R_extract rfl rfl) ?_
        have h0 := hB2_8
        refine H_op (i := 9) (by kernel_rfl) rfl rfl (D_storeA Try.sizeOf53 hB2_8 rfl rfl rfl rfl rfl (l' := (y2_4).l) rfl (fun w2_9 k2_9 hB2_8 => ?_))
        have f2_9 := Fb.kp k2_9 (Nat.le_trans (Nat.le_refl _) lB2_8) (Blk.notB h0 rfl)
        replace hE := hE.kp k2_9 lB2_8
        replace hB1_0 := hB1_0.kp k2_9 nB1_0B2_8
        replace hB1_1 := hB1_1.kp k2_9 nB1_1B2_8
        replace k2_4 := k2_4.fb (Fb.kp k2_9 (Nat.zero_le _) (Blk.notB h0 rfl))
        refine ⟨⟨hE, hB1_0, hB1_1, trivial⟩, ?_⟩
        refine H_take (i := 10) rfl (by kernel_rfl) (by kernel_rfl) (by kernel_rfl) rfl pq_cut ⟨hE, hB1_0, hB1_1, trivial⟩ rfl (fun w hw => R_assign rfl) ?_
        refine H_done (by kernel_rfl) ?_
        exact ⟨rfl, _, rfl, _, _, rfl, rfl, rfl, rfl, rfl, hE, hB1_0, hB1_1, hB2_8, lB2_8, nB1_0B2_8, nB1_1B2_8, k2_4, py2_4⟩
    ·
      refine D_alloc (c := (Sg.zero).l) Try.zeroValue53 rfl (fun aB2_8 w2_8 e2_8 gB2_8 hB2_8 => ?_)
      have lB2_8 := Nat.le_trans hE.size gB2_8
      have nB1_0B2_8 := hB1_0.ne gB2_8
      have nB1_1B2_8 := hB1_1.ne gB2_8
      replace hE := hE.trans e2_8
      replace hB1_0 := hB1_0.ext e2_8
      replace hB1_1 := hB1_1.ext e2_8
      refine ⟨⟨hE, hB1_0, hB1_1, trivial⟩, ?_⟩
      refine H_op (i := 1) (by kernel_rfl) rfl rfl (D_callE (R_callF Try.call60 rfl rfl) (c60t (n) _) (fun v2_1 w2_1 e2_1 p2_1 => ?_))
      obtain ⟨aK2_1, aM2_1, rfl, gK2_1, gM2_1, nK2_1M2_1, hK2_1, hM2_1⟩ := p2_1
      have lK2_1 := Nat.le_trans hE.size gK2_1
      have nB1_0K2_1 := hB1_0.ne gK2_1
      have nB1_1K2_1 := hB1_1.ne gK2_1
      have nB2_8K2_1 := hB2_8.ne gK2_1
      have lM2_1 := Nat.le_trans hE.size gM2_1
      have nB1_0M2_1 := hB1_0.ne gM2_1
      have nB1_1M2_1 := hB1_1.ne gM2_1
      have nB2_8M2_1 := hB2_8.ne gM2_1
      replace hE := hE.trans e2_1
      replace hB1_0 := hB1_0.ext e2_1
      replace hB1_1 := hB1_1.ext e2_1
      replace hB2_8 := hB2_8.ext e2_1
      refine ⟨⟨hE, hB1_0, hB1_1, trivial⟩, ?_⟩
      refine H_op (i := 4) (by kernel_rfl) rfl rfl (D_callX (R_callF Try.call59 rfl rfl) (c59 (n) aM2_1 aK2_1 (I) (x) _ hK2_1 _ hM2_1 nK2_1M2_1) (fun v2_4 w2_4 p2_4 => ?_))
      obtain ⟨e2_4, y2_4, rfl, py2_4, k2_4⟩ := p2_4
      replace hE := hE.chg e2_4 lM2_1
      replace hB1_0 := hB1_0.chg e2_4 nB1_0M2_1
      replace hB1_1 := hB1_1.chg e2_4 nB1_1M2_1
      replace hB2_8 := hB2_8.chg e2_4 nB2_8M2_1
      replace hK2_1 := hK2_1.chg e2_4 nK2_1M2_1
      refine ⟨⟨hE, hB1_0, hB1_1, trivial⟩, ?_⟩
      refine H_take (i := 5) rfl (by kernel_rfl) (by kernel_rfl) (by kernel_rfl) rfl pq_cut ⟨hE, hB1_0, hB1_1, trivial⟩ rfl (fun w hw => R_move rfl) ?_
      refine H_take (i := 6) rfl (by kernel_rfl) (by kernel_rfl) (by kernel_rfl) rfl pq_cut ⟨hE, hB1_0, hB1_1, trivial⟩ rfl (fun w hw => R_extract rfl rfl) ?_
      refine H_take (i := 7) rfl (by kernel_rfl) (by kernel_rfl) (by kernel_rfl) rfl pq_cut ⟨hE, hB1_0, hB1_1, trivial⟩ rfl (fun w hw => R_extract rfl rfl) ?_
      have h0 := hB2_8
      refine H_op (i := 9) (by kernel_rfl) rfl rfl (D_storeA Try.sizeOf53 hB2_8 rfl rfl rfl rfl rfl (l' := (y2_4).l) rfl (fun w2_9 k2_9 hB2_8 => ?_))
      have f2_9 := Fb.kp k2_9 (Nat.le_trans (Nat.le_refl _) lB2_8) (Blk.notB h0 rfl)
      replace hE := hE.kp k2_9 lB2_8
      replace hB1_0 := hB1_0.kp k2_9 nB1_0B2_8
      replace hB1_1 := hB1_1.kp k2_9 nB1_1B2_8
      replace k2_4 := k2_4.fb (Fb.kp k2_9 (Nat.zero_le _) (Blk.notB h0 rfl))
      refine ⟨⟨hE, hB1_0, hB1_1, trivial⟩, ?_⟩
      refine H_take (i := 10) rfl (by kernel_rfl) (by kernel_rfl) (by kernel_rfl) rfl pq_cut ⟨hE, hB1_0, hB1_1, trivial⟩ rfl (fun w hw => R_assign rfl) ?_
      refine H_done (by kernel_rfl) ?_
      exact ⟨rfl, _, rfl, _, _, rfl, rfl, rfl, rfl, rfl, hE, hB1_0, hB1_1, hB2_8, lB2_8, nB1_0B2_8, nB1_1B2_8, k2_4, py2_4⟩
  rintro f2 w2c ⟨y2_4, aB2_8, q1, q3, q5, q7, q8, hE, hB1_0, hB1_1, hB2_8, lB2_8, nB1_0B2_8, nB1_1B2_8, k2_4, py2_4⟩
  refine T_tn ?_
  refine wp_seq ?_
  refine W_region ?_
  refine L (D_v (R_loadA (c := (n).l) Try.isAgg24 Try.sizeOf24 hB1_0 q3 rfl rfl) ?_)
  refine L (D_v (R_move q1) ?_)
  refine L (D_v (R_loadA (c := (x).l) Try.isAgg26 Try.sizeOf26 hB1_1 q5 rfl rfl) ?_)
  refine L (D_callE (R_callF Try.call53 rfl rfl) (c53 (n) (I) (x) _) (fun v3_3 w3_3 e3_3 p3_3 => ?_))
  obtain ⟨y3_3, rfl, py3_3, k3_3⟩ := p3_3
  replace hE := hE.trans e3_3
  replace hB1_0 := hB1_0.ext e3_3
  replace hB1_1 := hB1_1.ext e3_3
  replace hB2_8 := hB2_8.ext e3_3
  replace k2_4 := k2_4.fb (Fb.ext e3_3)
  refine L (D_v (R_move rfl) ?_)
  refine L (D_v (R_extract rfl rfl) ?_)
  refine L (D_v (R_extract rfl rfl) ?_)
  refine L (D_alloc (c := (Sg.zero).l) Try.zeroValue53 rfl (fun aB3_7 w3_7 e3_7 gB3_7 hB3_7 => ?_))
  have lB3_7 := Nat.le_trans hE.size gB3_7
  have nB1_0B3_7 := hB1_0.ne gB3_7
  have nB1_1B3_7 := hB1_1.ne gB3_7
  have nB2_8B3_7 := hB2_8.ne gB3_7
  replace hE := hE.trans e3_7
  replace hB1_0 := hB1_0.ext e3_7
  replace hB1_1 := hB1_1.ext e3_7
  replace hB2_8 := hB2_8.ext e3_7
  replace k2_4 := k2_4.fb (Fb.ext e3_7)
  replace k3_3 := k3_3.fb (Fb.ext e3_7)
  have h0 := hB3_7
  refine L (D_storeA Try.sizeOf53 hB3_7 rfl rfl rfl rfl rfl (l' := (y3_3).l) rfl (fun w3_8 k3_8 hB3_7 => ?_))
  have f3_8 := Fb.kp k3_8 (Nat.le_trans (Nat.le_refl _) lB3_7) (Blk.notB h0 rfl)
  replace hE := hE.kp k3_8 lB3_7
  replace hB1_0 := hB1_0.kp k3_8 nB1_0B3_7
  replace hB1_1 := hB1_1.kp k3_8 nB1_1B3_7
  replace hB2_8 := hB2_8.kp k3_8 nB2_8B3_7
  replace k2_4 := k2_4.fb (Fb.kp k3_8 (Nat.zero_le _) (Blk.notB h0 rfl))
  replace k3_3 := k3_3.fb (Fb.kp k3_8 (Nat.zero_le _) (Blk.notB h0 rfl))
  refine L (D_v (R_assign rfl) ?_)
  refine S_nil ?_
  refine T_tn ?_
  refine wp_seq ?_
  refine W_region ?_
  refine L (D_v (R_move q1) ?_)
  refine L (D_v (R_loadA (c := (x).l) Try.isAgg26 Try.sizeOf26 hB1_1 q5 rfl rfl) ?_)
  refine L (D_call (R_callF Try.call59 rfl rfl) (c59_nil (I) (x) _) (fun w4_2 e4_2 => ?_))
  replace hE := hE.trans e4_2
  replace hB1_1 := hB1_1.ext e4_2
  replace hB2_8 := hB2_8.ext e4_2
  replace hB3_7 := hB3_7.ext e4_2
  replace k2_4 := k2_4.fb (Fb.ext e4_2)
  replace k3_3 := k3_3.fb (Fb.ext e4_2)
  refine L (D_v (R_move rfl) ?_)
  refine L (D_v (R_extract rfl rfl) ?_)
  refine L (D_v (R_extract rfl rfl) ?_)
  refine L (D_alloc (c := (Sg.zero).l) Try.zeroValue53 rfl (fun aB4_6 w4_6 e4_6 gB4_6 hB4_6 => ?_))
  have lB4_6 := Nat.le_trans hE.size gB4_6
  have nB1_1B4_6 := hB1_1.ne gB4_6
  have nB2_8B4_6 := hB2_8.ne gB4_6
  have nB3_7B4_6 := hB3_7.ne gB4_6
  replace hE := hE.trans e4_6
  replace hB1_1 := hB1_1.ext e4_6
  replace hB2_8 := hB2_8.ext e4_6
  replace hB3_7 := hB3_7.ext e4_6
  replace k2_4 := k2_4.fb (Fb.ext e4_6)
  replace k3_3 := k3_3.fb (Fb.ext e4_6)
  have h0 := hB4_6
  refine L (D_storeA Try.sizeOf53 hB4_6 rfl rfl rfl rfl rfl (l' := (Sg.zero).l) rfl (fun w4_7 k4_7 hB4_6 => ?_))
  have f4_7 := Fb.kp k4_7 (Nat.le_trans (Nat.le_refl _) lB4_6) (Blk.notB h0 rfl)
  replace hE := hE.kp k4_7 lB4_6
  replace hB1_1 := hB1_1.kp k4_7 nB1_1B4_6
  replace hB2_8 := hB2_8.kp k4_7 nB2_8B4_6
  replace hB3_7 := hB3_7.kp k4_7 nB3_7B4_6
  replace k2_4 := k2_4.fb (Fb.kp k4_7 (Nat.zero_le _) (Blk.notB h0 rfl))
  replace k3_3 := k3_3.fb (Fb.kp k4_7 (Nat.zero_le _) (Blk.notB h0 rfl))
  refine L (D_v (R_assign rfl) ?_)
  refine S_nil ?_
  refine T_tn ?_
  refine wp_seq ?_
  refine W_region ?_
  refine L (D_v (R_loadA (c := (y2_4).l) Try.isAgg53 Try.sizeOf53 hB2_8 q7 rfl rfl) ?_)
  refine L (D_v (R_loadA (c := (y3_3).l) Try.isAgg53 Try.sizeOf53 hB3_7 rfl rfl rfl) ?_)
  refine L (D_call (R_callF Try.call55 rfl rfl) (c55 (y2_4) (y3_3) _ ((k2_4.up (lo' := w.heap.size) (Nat.zero_le _)).up (Nat.le_trans (Nat.le_refl _) hE.size)) ((k3_3.up (lo' := w.heap.size) (Nat.zero_le _)).up (Nat.le_trans (Nat.le_refl _) hE.size))) (fun w5_2 e5_2 => ?_))
  replace hE := hE.trans e5_2
  replace hB2_8 := hB2_8.ext e5_2
  replace hB3_7 := hB3_7.ext e5_2
  replace k2_4 := k2_4.fb (Fb.ext e5_2)
  replace k3_3 := k3_3.fb (Fb.ext e5_2)
  refine L (D_v (R_move rfl) ?_)
  refine L (D_g1 rfl rfl (fun hb => R_move q8) ?_)
  refine L (D_g1 rfl rfl (fun hb => R_move rfl) ?_)
  refine L (D_g1 rfl rfl (fun hb => R_eqlB Try.underlying4 (cgE hb) (cgE hb)) ?_)
  refine L (D_v (R_pickA rfl rfl rfl) ?_)
  refine L (D_v (R_move rfl) ?_)
  refine L (D_g1 rfl rfl (fun hb => R_move rfl) ?_)
  refine L (D_g1 rfl rfl (fun hb => R_not (cgE hb)) ?_)
  refine L (D_v (R_pickA rfl rfl rfl) ?_)
  refine L (D_v (R_move rfl) ?_)
  refine L (D_gc1 rfl rfl (fun hb => R_callF Try.call56 rfl rfl) (fun hb => c56 _) (fun w5_13 e5_13 => ?_))
  replace hE := hE.trans e5_13
  replace hB2_8 := hB2_8.ext e5_13
  replace hB3_7 := hB3_7.ext e5_13
  replace k2_4 := k2_4.fb (Fb.ext e5_13)
  replace k3_3 := k3_3.fb (Fb.ext e5_13)
  refine L (D_v (R_pickA rfl rfl rfl) ?_)
  refine L (D_v (R_assign rfl) ?_)
  refine S_nil ?_
  refine T_tn ?_
  refine wp_ret ?_
  refine ret1 (v := .bool _) rfl rfl ⟨congrArg (fun b => Ending.returned (Value.bool b)) ?_, hE⟩
  rw [py2_4, py3_3, sameS_refl]; cases okL x I <;> rfl
end Go.Proofs.Yteeopgpgbdhmhaa
