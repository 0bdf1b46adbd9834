/- Walks of the functions on bytes: same, Verified of evidence, copied. No condition. Printed by wip/mkW.py. -/
import Derived.Test.YteeopgpgbdhmhaaWV
import Derived.Test.YteeopgpgbdhmhaaCj
namespace Go.Proofs.Yteeopgpgbdhmhaa
open Go.RowKit
set_option linter.unusedVariables false
set_option linter.unusedSimpArgs false
attribute [local irreducible] wpList wpO H wpQuiet wpStill Code.wp Exit.then Exit.inBlock bodyPost Code.rounds Calls valid sameKey conflict lessV hless num between
-- forkledger/forkledgerlaw8.same
set_option maxRecDepth 4000 in
set_option maxHeartbeats 1000000 in
theorem c55 (x y : Sg) (w : World) (hx : x.okf w.heap.size w) (hy : y.okf w.heap.size w) : Calls Try.prog 55 [x.v, y.v].toArray w (Ret w (.bool (sameS x.p y.p))) := by
  refine enter Try.func55 Try.ntmps55 rfl rfl ?_
  have hE := Ext.refl w
  refine wp_seq ?_
  refine W_region ?_
  refine L (D_box (c := (x).l) (rfl) (fun aB1_0 w1_0 e1_0 gB1_0 hB1_0 => ?_))
  have lB1_0 := Nat.le_trans hE.size gB1_0
  replace hE := hE.trans e1_0
  refine L (D_box (c := (y).l) (rfl) (fun aB1_1 w1_1 e1_1 gB1_1 hB1_1 => ?_))
  have lB1_1 := Nat.le_trans hE.size gB1_1
  have nB1_0B1_1 := hB1_0.ne gB1_1
  replace hE := hE.trans e1_1
  replace hB1_0 := hB1_0.ext e1_1
  refine L (D_v (R_assign rfl) ?_)
  refine S_nil ?_
  refine T_tn ?_
  refine wp_seq ?_
  refine W_region ?_
  refine L (D_v (R_fieldAddr Try.runUnderlying53 rfl Try.sizeOf26 rfl) ?_)
  refine L (D_v (R_loadA (c := ((x).vote).l) Try.isAgg26 Try.sizeOf26 hB1_0 rfl rfl rfl) ?_)
  refine L (D_v (R_fieldAddr Try.runUnderlying53 rfl Try.sizeOf26 rfl) ?_)
  refine L (D_v (R_loadA (c := ((y).vote).l) Try.isAgg26 Try.sizeOf26 hB1_1 rfl rfl rfl) ?_)
  refine L (D_v (R_eqlA Try.eqGuardType26 (eq26 ((x).vote) ((y).vote) _) rfl rfl) ?_)
  refine L (D_v (R_move rfl) ?_)
  refine L (D_g1 rfl rfl (fun hb => R_fieldAddr Try.runUnderlying53 rfl Try.sizeOf31 rfl) ?_)
  refine L (D_g1 rfl rfl (fun hb => R_load Try.isAgg31 hB1_0 (cgE hb) rfl) ?_)
  refine L (D_g1 rfl rfl (fun hb => R_str (b := (x).sig) (cgE hb) (hx.fb (Fb.ext hE)).bs) ?_)
  refine L (D_g1 rfl rfl (fun hb => R_fieldAddr Try.runUnderlying53 rfl Try.sizeOf31 rfl) ?_)
  refine L (D_g1 rfl rfl (fun hb => R_load Try.isAgg31 hB1_1 (cgE hb) rfl) ?_)
  refine L (D_g1 rfl rfl (fun hb => R_str (b := (y).sig) (cgE hb) (hy.fb (Fb.ext hE)).bs) ?_)
  refine L (D_g1 rfl rfl (fun hb => R_eqlStr (a := (x).sig) (b := (y).sig) (cgE hb) (cgE hb)) ?_)
  refine L (D_v (R_pickA rfl rfl rfl) ?_)
  refine L (D_v (R_assign rfl) ?_)
  refine S_nil ?_
  refine T_tn ?_
  refine wp_ret ?_
  refine ret1 (v := .bool _) rfl rfl ⟨?_, hE⟩
  rfl

-- forkledger/evidence.verifies
set_option maxRecDepth 4000 in
set_option maxHeartbeats 2000000 in
theorem c106 (vk : Value) (keys : List Nm) (x : Sg) (w : World) (hk : Ls cN w.heap.size w vk keys) (hs : x.okf w.heap.size w) : Calls Try.prog 106 [vk, x.v].toArray w (Ret w (.bool (verK keys x.p))) := by
  refine enter Try.func106 Try.ntmps106 rfl rfl ?_
  have hE := Ext.refl w
  refine wp_seq ?_
  refine W_region ?_
  refine L (D_box (c := (x).l) (rfl) (fun aB1_0 w1_0 e1_0 gB1_0 hB1_0 => ?_))
  have lB1_0 := Nat.le_trans hE.size gB1_0
  replace hE := hE.trans e1_0
  refine L (D_v (R_assign rfl) ?_)
  refine S_nil ?_
  refine T_tn ?_
  refine wp_seq ?_
  refine W_region ?_
  refine L (D_v (R_fieldAddr Try.runUnderlying53 rfl Try.sizeOf26 rfl) ?_)
  refine L (D_v (R_fieldAddr Try.runUnderlying26 rfl Try.sizeOf3 rfl) ?_)
  refine L (D_v (R_load Try.isAgg3 hB1_0 rfl rfl) ?_)
  refine L (D_v (R_assign rfl) ?_)
  refine S_nil ?_
  refine T_tn ?_
  refine wp_seq ?_
  refine W_draw mixed (by kernel_rfl) ?_
  refine Q_v (fun w hw => R_move rfl) ?_
  refine Q_v (fun w hw => R_geqI rfl rfl) ?_
  refine Q_v (fun w hw => R_move rfl) ?_
  refine Q_g1 rfl rfl (fun hb w hw => R_move rfl) ?_
  refine Q_g1 rfl rfl (fun hb w hw => R_move rfl) ?_
  refine Q_g1 rfl rfl (fun hb w hw => R_len Try.underlying45 (cgE hb) (hk.ext (hE.trans hw)).1) ?_
  refine Q_g1 rfl rfl (fun hb w hw => R_lssI (cgE hb) (cgE hb)) ?_
  refine Q_v (fun w hw => R_pickA rfl rfl rfl) ?_
  refine Q_v (fun w hw => R_move rfl) ?_
  refine Q_g1 rfl rfl (fun hb w hw => R_move rfl) ?_
  refine Q_g1 rfl rfl (fun hb w hw => R_move rfl) ?_
  refine Q_g1 rfl rfl (fun hb w hw => R_elI (i := (x).vote.signer) Try.underlying45 Try.sizeOf24 (cgE hb) (cgE hb) (hk.ext (hE.trans hw)).1 (by simp at hb; omega) (by simp at hb; omega)) ?_
  refine Q_g1 rfl rfl (fun hb w hw => R_ldL (C := cN) (i := ((x).vote.signer).toNat) (y := ((keys).getD (((x).vote.signer).toNat) Nm.zero)) Try.isAgg24 Try.sizeOf24 (cgE hb) (hk.ext (hE.trans hw)) (getD_some (d := Nm.zero) (by simp at hb; omega))) ?_
  refine Q_g1 rfl rfl (fun hb w hw => R_loadA (c := (x).l) Try.isAgg53 Try.sizeOf53 (hB1_0.ext hw) rfl rfl rfl) ?_
  refine Q_gc1 rfl rfl (fun hb w hw => R_callF Try.call75 (mapv2 (cgE hb) (cgE hb)) rfl) (fun hb w hw => c75 (((keys).getD (((x).vote.signer).toNat) Nm.zero)) (x) _ ((hs.fb (Fb.ext (hE.trans hw))).up (Nat.le_trans (Nat.le_refl _) (hE.trans hw).size))) ?_
  refine Q_v (fun w hw => R_pickA rfl rfl rfl) ?_
  refine Q_v (fun w hw => R_assign rfl) ?_
  refine Q_nil (fun w3_99 e3_99 => ?_)
  replace hE := hE.trans e3_99
  replace hB1_0 := hB1_0.ext e3_99
  refine T_tn ?_
  refine wp_ret ?_
  refine ret1 (v := .bool _) rfl rfl ⟨congrArg (fun b => Ending.returned (Value.bool b)) ?_, hE⟩
  rfl

-- forkledger/evidence.Verified
set_option maxRecDepth 4000 in
set_option maxHeartbeats 2000000 in
theorem c102 (vk : Value) (keys : List Nm) (lo : Nat) (v : Value) (xs : List Sg) (w : World) (hk : Ls cN w.heap.size w vk keys) (hlo : lo ≤ w.heap.size) (hn : xs.length ≤ 1000000) (h : Ls cS lo w v xs) : Calls Try.prog 102 [vk, v].toArray w (RetE w fun r w' => ∃ ys, Ow cS lo w.heap.size w' r ys ∧ ∃ zs : List Sg, zs.length = (xs.filter (fun x => verK keys x.p)).length ∧ (∀ p, p ∈ zs.map Sg.p ↔ p ∈ (xs.filter (fun x => verK keys x.p)).map Sg.p) ∧ srtL zs ∧ ys = ddn zs zs.length) := by
  refine enter Try.func102 Try.ntmps102 rfl rfl ?_
  have hE := Ext.refl w
  refine wp_seq ?_
  refine W_region ?_
  refine L (D_v (R_assign rfl) ?_)
  refine S_nil ?_
  refine T_tn ?_
  refine wp_seq ?_
  refine W_region ?_
  refine L (D_v (R_assign rfl) ?_)
  refine S_nil ?_
  refine T_tn ?_
  refine wp_seq ?_
  refine wp_seq ?_
  refine W_region ?_
  refine L (D_v (R_move rfl) ?_)
  refine L (D_v (R_len Try.underlying46 rfl (h.ext hE).1) ?_)
  refine L (D_v (R_move rfl) ?_)
  refine S_nil ?_
  refine T_tn ?_
  refine wp_block ?_
  refine W_loop (fun mz g W => ∃ (i : Nat) (ys : List Sg) (r5 : Value), mz = xs.length - i ∧ g 0 = vk ∧ g 5 = r5 ∧ g 8 = v ∧ g 9 = i64 (((xs).length : Nat) : Int) ∧ g 10 = i64 ((i : Nat) : Int) ∧ Ext w W ∧ Ow cS lo w.heap.size W r5 ys ∧ i ≤ xs.length ∧ ys.length ≤ i ∧ (∀ x ∈ ys, x.sig.length ≤ 140737488355328) ∧ ys = (xs.take i).filter (fun x => verK keys x.p)) ⟨0, [], _, rfl, rfl, rfl, rfl, rfl, rfl, hE, (Ow.nil cS lo _ _), (Nat.zero_le _), (by simp), (fun x hx => absurd hx (by simp)), (by simp)⟩ ?_
  rintro mz f4 w4l ⟨i, ys, r5, hm, q0, q5, q8, q9, q10, hE, or5, hi, hl, hs, hys⟩
  refine wp_seq ?_
  refine W_region ?_
  refine L (D_v (R_lssI q10 q9) ?_)
  refine S_nil ?_
  refine T_tn ?_
  refine wp_seq ?_
  refine W_if rfl (fun c1 => ?_) (fun c1 => ?_)
  ·
    have lk : i < xs.length := by simp at c1; omega
    refine wp_skip ?_
    refine T_tn ?_
    refine wp_seq ?_
    refine wp_block ?_
    refine wp_seq ?_
    refine W_region ?_
    refine L (D_v (R_elAddr (i := i) Try.underlying46 Try.sizeOf53 q8 q10 (h.ext hE).1 (by (try simp only [List.length_take, List.length_drop, List.length_append, List.length_cons, List.length_nil, List.length_replicate, List.length_set, Nm.b_len, be2_len]); omega)) ?_)
    have k6_1 := ((h.ext hE)).get (getD_some (d := Sg.zero) (by (try simp only [List.length_take, List.length_drop, List.length_append, List.length_cons, List.length_nil, List.length_replicate, List.length_set, Nm.b_len, be2_len]); omega))
    refine L (D_v (R_ldL (C := cS) (i := i) (y := ((xs).getD (i) Sg.zero)) Try.isAgg53 Try.sizeOf53 rfl (h.ext hE) (getD_some (d := Sg.zero) (by (try simp only [List.length_take, List.length_drop, List.length_append, List.length_cons, List.length_nil, List.length_replicate, List.length_set, Nm.b_len, be2_len]); omega))) ?_)
    refine L (D_alloc (c := (Sg.zero).l) Try.zeroValue53 rfl (fun aB6_2 w6_2 e6_2 gB6_2 hB6_2 => ?_))
    have lB6_2 := Nat.le_trans hE.size gB6_2
    have yr5_B6_2 : Value.ownBlock r5 ≠ some aB6_2 := fun hk => absurd (own_lt or5.1 hk) (Nat.not_lt.2 gB6_2)
    replace hE := hE.trans e6_2
    replace or5 := or5.ext e6_2
    replace k6_1 := k6_1.fb (Fb.ext e6_2)
    have xor5 := yr5_B6_2
    have h0 := hB6_2
    refine L (D_storeA Try.sizeOf53 hB6_2 rfl rfl rfl rfl rfl (l' := (((xs).getD (i) Sg.zero)).l) rfl (fun w6_3 k6_3 hB6_2 => ?_))
    have f6_3 := Fb.kp k6_3 (Nat.le_trans hlo lB6_2) (Blk.notB h0 rfl)
    replace hE := hE.kp k6_3 lB6_2
    replace or5 := or5.kp k6_3 xor5 f6_3
    replace k6_1 := k6_1.fb f6_3
    refine S_nil ?_
    refine T_tn ?_
    refine wp_seq ?_
    refine W_region ?_
    refine L (D_v (R_move q0) ?_)
    refine L (D_v (R_loadA (c := (((xs).getD (i) Sg.zero)).l) Try.isAgg53 Try.sizeOf53 hB6_2 rfl rfl rfl) ?_)
    refine L (D_call (R_callF Try.call106 rfl rfl) (c106 vk (keys) (((xs).getD (i) Sg.zero)) _ ((hk.ext hE).lev fun _ _ _ => trivial) (k6_1.up (Nat.le_trans hlo hE.size))) (fun w7_2 e7_2 => ?_))
    replace hE := hE.trans e7_2
    replace hB6_2 := hB6_2.ext e7_2
    replace or5 := or5.ext e7_2
    replace k6_1 := k6_1.fb (Fb.ext e7_2)
    refine S_nil ?_
    refine T_tn ?_
    refine W_if rfl (fun c2 => ?_) (fun c2 => ?_)
    ·
      have hv := verK_sig c2
      have hf := flt_y (i := i) (xs := xs) hys lk c2
      refine W_region ?_
      refine L (D_v (R_move q5) ?_)
      refine L (D_v (R_loadA (c := (((xs).getD (i) Sg.zero)).l) Try.isAgg53 Try.sizeOf53 hB6_2 rfl rfl rfl) ?_)
      refine L (D_buildL1 (C := cS) (lo := lo) (y := ((xs).getD (i) Sg.zero)) Try.underlying46 Try.sizeOf53 Try.zeroValue53 (mapp1 rfl) (by decide) k6_1 (fun v8_2 w8_2 o8_2 e8_2 => ?_))
      have yv8_2_B6_2 : Value.ownBlock v8_2 ≠ some aB6_2 := fun hk => absurd (own_ge o8_2.1 hk) (Nat.not_le.2 hB6_2.lt)
      have zr5_v8_2 := own_apart or5.1 o8_2.1
      have zv8_2_r5 := fun k hk hk2 => zr5_v8_2 k hk2 hk
      replace o8_2 := o8_2.low hE.size
      replace hE := hE.trans e8_2
      replace hB6_2 := hB6_2.ext e8_2
      replace or5 := or5.ext e8_2
      replace k6_1 := k6_1.fb (Fb.ext e8_2)
      refine L (D_appendL elt53 Try.underlying46 rfl rfl or5 hlo o8_2.ls (by (try simp only [List.length_take, List.length_drop, List.length_append, List.length_cons, List.length_nil, List.length_replicate, List.length_set, Nm.b_len, be2_len]); omega) (by (try simp only [List.length_take, List.length_drop, List.length_append, List.length_cons, List.length_nil, List.length_replicate, List.length_set, Nm.b_len, be2_len]); omega) hE.size (fun v8_3 w8_3 o8_3 g8_3 f8_3 sv8_3 => ?_))
      have yv8_3_B6_2 : Value.ownBlock v8_3 ≠ some aB6_2 := fun hk => (sv8_3 _ hk).elim yr5_B6_2 (fun h => absurd h (Nat.not_le.2 hB6_2.lt))
      have zv8_2_v8_3 : ∀ k, Value.ownBlock v8_2 = some k → Value.ownBlock v8_3 ≠ some k := fun k hk2 hk => (sv8_3 _ hk).elim (fun h => zv8_2_r5 k hk2 h) (fun h => absurd h (Nat.not_le.2 (own_lt o8_2.1 hk2)))
      have zv8_3_v8_2 := fun k hk hk2 => zv8_2_v8_3 k hk2 hk
      replace hE := hE.grown g8_3 (fun k hk => own_ge or5.1 hk)
      replace hB6_2 := hB6_2.grown g8_3 (yr5_B6_2)
      replace o8_2 := o8_2.grown g8_3 (zv8_2_r5) f8_3
      replace k6_1 := k6_1.fb f8_3
      refine L (D_v (R_assign rfl) ?_)
      refine S_nil ?_
      refine T_bn ?_
      refine T_tn ?_
      refine W_region ?_
      refine L (D_v (R_addN (m := i) (j := 1) q10 rfl (by (try simp only [List.length_take, List.length_drop, List.length_append, List.length_cons, List.length_nil, List.length_replicate, List.length_set, Nm.b_len, be2_len]); omega)) ?_)
      refine L (D_v (R_move rfl) ?_)
      refine S_nil ?_
      refine T_tn ?_
      refine ⟨_, _, ?_, rfl, i + 1, _, _, rfl, q0, rfl, q8, q9, rfl, hE, o8_3, ?_, ?_, ?_, ?_⟩
      all_goals first | omega | exact hs | exact hf | (simp only [List.length_append, List.length_cons, List.length_nil]; omega) | (intro x hx; exact (List.mem_append.1 hx).elim (hs x) (fun h1 => by rw [List.mem_singleton.1 h1]; exact hv))
    ·
      have hf := flt_n (i := i) (xs := xs) hys lk c2
      refine wp_skip ?_
      refine T_bn ?_
      refine T_tn ?_
      refine W_region ?_
      refine L (D_v (R_addN (m := i) (j := 1) q10 rfl (by (try simp only [List.length_take, List.length_drop, List.length_append, List.length_cons, List.length_nil, List.length_replicate, List.length_set, Nm.b_len, be2_len]); omega)) ?_)
      refine L (D_v (R_move rfl) ?_)
      refine S_nil ?_
      refine T_tn ?_
      refine ⟨_, _, ?_, rfl, i + 1, _, _, rfl, q0, q5, q8, q9, rfl, hE, or5, ?_, ?_, ?_, ?_⟩
      all_goals first | omega | exact hs | exact hf | (simp only [List.length_append, List.length_cons, List.length_nil]; omega) | (intro x hx; exact (List.mem_append.1 hx).elim (hs x) (fun h1 => by rw [List.mem_singleton.1 h1]; exact hv))
  ·
    obtain rfl : i = xs.length := by have h9 := of_decide_eq_false c1; omega
    refine wp_exit ?_
    refine T_te ?_
    refine T_te ?_
    refine T_be ?_
    refine T_tn ?_
    refine wp_seq ?_
    refine W_region ?_
    refine L (D_v (R_move q5) ?_)
    refine L (D_callE (R_callF Try.call57 rfl rfl) (c57 lo r5 (ys) _ (Nat.le_trans hlo hE.size) (by (try simp only [List.length_take, List.length_drop, List.length_append, List.length_cons, List.length_nil, List.length_replicate, List.length_set, Nm.b_len, be2_len]); omega) or5.ls hs) (fun v6_1 w6_1 e6_1 p6_1 => ?_))
    obtain ⟨y6_1, o6_1, zz6_1, za6_1, zb6_1, zc6_1, zd6_1⟩ := p6_1
    have zr5_v6_1 := own_apart or5.1 o6_1.1
    have zv6_1_r5 := fun k hk hk2 => zr5_v6_1 k hk2 hk
    replace o6_1 := o6_1.low hE.size
    replace hE := hE.trans e6_1
    replace or5 := or5.ext e6_1
    refine L (D_v (R_assign rfl) ?_)
    refine S_nil ?_
    refine T_tn ?_
    refine wp_ret ?_
    refine ret1 (v := v6_1) rfl rfl ⟨_, rfl, hE, ?_⟩
    rw [List.take_of_length_le (Nat.le_refl _)] at hys
    rw [hys] at za6_1 zb6_1
    exact ⟨_, o6_1, zz6_1, za6_1, zb6_1, zc6_1, zd6_1⟩

-- forkledger/evidence.copied
set_option maxRecDepth 4000 in
set_option maxHeartbeats 1000000 in
theorem c104 (x : Sg) (w : World) (hs : x.okf w.heap.size w) (hl : x.sig.length ≤ 140737488355328) : Calls Try.prog 104 [x.v].toArray w (RetE w fun r w' => ∃ x2 : Sg, r = x2.v ∧ x2.p = x.p ∧ x2.okf 0 w') := by
  refine enter Try.func104 Try.ntmps104 rfl rfl ?_
  have hE := Ext.refl w
  refine wp_seq ?_
  refine W_region ?_
  refine L (D_box (c := (x).l) (rfl) (fun aB1_0 w1_0 e1_0 gB1_0 hB1_0 => ?_))
  have lB1_0 := Nat.le_trans hE.size gB1_0
  replace hE := hE.trans e1_0
  refine L (D_alloc (c := (Sg.zero).l) Try.zeroValue53 rfl (fun aB1_1 w1_1 e1_1 gB1_1 hB1_1 => ?_))
  have lB1_1 := Nat.le_trans hE.size gB1_1
  have nB1_0B1_1 := hB1_0.ne gB1_1
  replace hE := hE.trans e1_1
  replace hB1_0 := hB1_0.ext e1_1
  refine S_nil ?_
  refine T_tn ?_
  refine wp_seq ?_
  refine W_held (fun W => Ext w W ∧ Blk W aB1_0 (x).l 53 ∧ True) mixed (fun w2_99 e2_99 => ?_)
  replace hE := hE.trans e2_99
  replace hB1_0 := hB1_0.ext e2_99
  replace hB1_1 := hB1_1.ext e2_99
  refine H_take (i := 0) rfl (by kernel_rfl) (by kernel_rfl) (by kernel_rfl) rfl (pq_then pq_body) ⟨hE, hB1_0, trivial⟩ rfl (fun w hw => R_fieldAddr Try.runUnderlying53 rfl Try.sizeOf26 rfl) ?_
  refine H_take (i := 1) rfl (by kernel_rfl) (by kernel_rfl) (by kernel_rfl) rfl (pq_then pq_body) ⟨hE, hB1_0, trivial⟩ rfl (fun w hw => R_loadA (c := ((x).vote).l) Try.isAgg26 Try.sizeOf26 hw.2.1 rfl rfl rfl) ?_
  refine H_take (i := 2) rfl (by kernel_rfl) (by kernel_rfl) (by kernel_rfl) rfl (pq_then pq_body) ⟨hE, hB1_0, trivial⟩ rfl (fun w hw => R_fieldAddr Try.runUnderlying53 rfl Try.sizeOf31 rfl) ?_
  refine H_take (i := 3) rfl (by kernel_rfl) (by kernel_rfl) (by kernel_rfl) rfl (pq_then pq_body) ⟨hE, hB1_0, trivial⟩ rfl (fun w hw => R_load Try.isAgg31 hw.2.1 rfl rfl) ?_
  have o2_4n := OwnB.nil w2_99 w.heap.size
  refine H_op (i := 4) (by kernel_rfl) rfl rfl (D_appendB elt5 Try.underlying31 rfl rfl o2_4n (hs.fb (Fb.ext hE)).bs (by (try simp only [List.length_take, List.length_drop, List.length_append, List.length_cons, List.length_nil, List.length_replicate, List.length_set, Nm.b_len, be2_len]); omega) hE.size (fun v2_4 w2_4 o2_4 g2_4 => ?_))
  replace g2_4 := gext g2_4
  replace hE := hE.trans g2_4
  replace hB1_0 := hB1_0.ext g2_4
  replace hB1_1 := hB1_1.ext g2_4
  refine ⟨⟨hE, hB1_0, trivial⟩, ?_⟩
  have k2_5 : Sg.okf w.heap.size w2_4 (mkSg ((x).vote) v2_4 ([] ++ (x).sig)) := mkSg_ok _ (Bf.own o2_4)
  refine H_op (i := 5) (by kernel_rfl) rfl rfl (D_v (R_buildS (vs := [(0, .agg ((x).vote).l.toArray), (1, v2_4)]) (c := (mkSg ((x).vote) v2_4 ([] ++ (x).sig)).l) Try.runUnderlying53 places53 Try.zeroValue53 (mapp2 rfl rfl) (fill53 _ o2_4.bs)) ⟨⟨hE, hB1_0, trivial⟩, ?_⟩)
  have xo2_4 := own_neB o2_4 hB1_1 rfl
  have h0 := hB1_1
  refine H_op (i := 6) (by kernel_rfl) rfl rfl (D_storeA Try.sizeOf53 hB1_1 rfl rfl rfl rfl rfl (l' := ((mkSg ((x).vote) v2_4 ([] ++ (x).sig))).l) rfl (fun w2_6 k2_6 hB1_1 => ?_))
  have f2_6 := Fb.kp k2_6 (Nat.le_trans (Nat.le_refl _) lB1_1) (Blk.notB h0 rfl)
  replace hE := hE.kp k2_6 lB1_1
  replace hB1_0 := hB1_0.kp k2_6 nB1_0B1_1
  replace o2_4 := o2_4.kp k2_6 xo2_4
  replace k2_5 := k2_5.fb f2_6
  refine ⟨⟨hE, hB1_0, trivial⟩, ?_⟩
  refine H_done (by kernel_rfl) ?_
  refine T_tn ?_
  refine wp_ret ?_
  refine retc (c := ((mkSg ((x).vote) v2_4 ([] ++ (x).sig))).l) rfl rfl Try.isAgg53 Try.sizeOf53 hB1_1 rfl rfl ⟨_, rfl, hE, ?_⟩
  exact ⟨(mkSg ((x).vote) v2_4 ([] ++ (x).sig)), rfl, rfl, mkSg_ok _ (Bf.own o2_4)⟩
end Go.Proofs.Yteeopgpgbdhmhaa
