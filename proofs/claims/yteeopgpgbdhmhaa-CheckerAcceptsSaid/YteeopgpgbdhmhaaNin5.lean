/- What the law needs, part 5. No condition. -/
import Derived.Test.YteeopgpgbdhmhaaNin4
namespace Go.Proofs.Yteeopgpgbdhmhaa
open Go.RowKit
set_option linter.unusedVariables false
set_option linter.unusedSimpArgs false
attribute [local irreducible] wpList wpO H wpQuiet wpStill Code.wp Exit.then Exit.inBlock bodyPost Code.rounds Calls valid sameKey conflict lessV hless num between
set_option maxRecDepth 4000 in
set_option maxHeartbeats 1000000 in
theorem c103 (v : Vt) (w : World) : Calls Try.prog 103 [v.v].toArray w (Ret w (keyVt v)) := by
  refine enter Try.func103 Try.ntmps103 rfl rfl ?_
  have hE := Ext.refl w
  refine wp_seq ?_
  refine W_region ?_
  refine L (D_box (c := (v).l) (rfl) (fun aB1_0 w1_0 e1_0 gB1_0 hB1_0 => ?_))
  have lB1_0 := Nat.le_trans hE.size gB1_0
  replace hE := hE.trans e1_0
  refine L (D_alloc Try.zeroValue115 rfl (fun aB1_1 w1_1 e1_1 gB1_1 hB1_1 => ?_))
  have lB1_1 := Nat.le_trans hE.size gB1_1
  have nB1_0B1_1 := hB1_0.ne gB1_1
  replace hE := hE.trans e1_1
  replace hB1_0 := hB1_0.ext e1_1
  refine S_nil ?_
  refine T_tn ?_
  refine wp_seq ?_
  refine W_region ?_
  refine L (D_v (R_fieldAddr Try.runUnderlying26 rfl Try.sizeOf3 rfl) ?_)
  refine L (D_v (R_load Try.isAgg3 hB1_0 rfl rfl) ?_)
  refine L (D_v (R_fieldAddr Try.runUnderlying26 rfl Try.sizeOf3 rfl) ?_)
  refine L (D_v (R_load Try.isAgg3 hB1_0 rfl rfl) ?_)
  refine L (D_v (R_fieldAddr Try.runUnderlying26 rfl Try.sizeOf3 rfl) ?_)
  refine L (D_v (R_load Try.isAgg3 hB1_0 rfl rfl) ?_)
  refine L (D_v (R_fieldAddr Try.runUnderlying26 rfl Try.sizeOf3 rfl) ?_)
  refine L (D_v (R_load Try.isAgg3 hB1_0 rfl rfl) ?_)
  refine L (D_v (R_fieldAddr Try.runUnderlying26 rfl Try.sizeOf24 rfl) ?_)
  refine L (D_v (R_loadA (c := (v.parent).l) Try.isAgg24 Try.sizeOf24 hB1_0 rfl rfl rfl) ?_)
  refine L (D_v (R_buildS (vs := [(0, i64 (v).kind), (1, i64 (v).slot), (2, i64 (v).round), (3, i64 (v).signer), (4, .agg (v).parent.l.toArray)]) (c := keyL (v)) Try.runUnderlying115 places115 Try.zeroValue115 rfl (fill115 _)) ?_)
  have h0 := hB1_1
  refine L (D_storeA Try.sizeOf115 hB1_1 rfl rfl rfl rfl rfl (l' := (keyL (v))) rfl (fun w2_11 k2_11 hB1_1 => ?_))
  replace hE := hE.kp k2_11 lB1_1
  replace hB1_0 := hB1_0.kp k2_11 nB1_0B1_1
  refine S_nil ?_
  refine T_tn ?_
  refine wp_ret ?_
  refine retc (c := keyL v) rfl rfl Try.isAgg115 Try.sizeOf115 hB1_1 rfl rfl ⟨rfl, hE⟩
set_option maxRecDepth 4000 in
set_option maxHeartbeats 4000000 in
theorem c73 (vk : Value) (keys : List Nm) (lo : Nat) (v : Value) (xs : List Sg) (w : World) (hk : Ls cN w.heap.size w vk keys) (hlo : lo ≤ w.heap.size) (hn : xs.length ≤ 1000000) (h : Ls cS lo w v xs) : Calls Try.prog 73 [vk, v].toArray w (RetE w fun r w' => ∃ es, Ow cE lo w.heap.size w' r es ∧ es.map Ev.p = findP (evs keys xs)) := by
  refine enter Try.func73 Try.ntmps73 rfl rfl ?_
  have hE := Ext.refl w
  refine wp_seq ?_
  refine W_region ?_
  refine L (D_v (R_assign rfl) ?_)
  refine S_nil ?_
  refine T_tn ?_
  refine wp_seq ?_
  refine W_region ?_
  refine L (D_v (R_move rfl) ?_)
  refine L (D_v (R_move rfl) ?_)
  refine L (D_callE (R_callF Try.call102 rfl rfl) (c102 vk (keys) lo v (xs) _ ((hk.ext hE).lev fun _ _ _ => trivial) (Nat.le_trans hlo hE.size) (by (try simp only [List.length_take, List.length_drop, List.length_append, List.length_cons, List.length_nil, List.length_replicate, List.length_set, Nm.b_len, be2_len]); omega) (h.ext hE)) (fun v2_2 w2_2 e2_2 p2_2 => ?_))
  obtain ⟨y2_2, o2_2, zz2_2, za2_2, zb2_2, zc2_2, zd2_2⟩ := p2_2
  replace o2_2 := o2_2.low hE.size
  replace hE := hE.trans e2_2
  have hys : AllS lo _ y2_2 := o2_2.2
  have hyE : y2_2.map Sg.p = evs keys xs := canP_eq (can_of zc2_2 zb2_2 zd2_2)
  have hyv := evs_vs hyE
  have hyl : y2_2.length ≤ 1000000 := by have h9 := ddn_len zz2_2 zz2_2.length; rw [← zd2_2] at h9; refine Nat.le_trans h9 (Nat.le_trans (Nat.le_of_eq za2_2) (Nat.le_trans (List.length_filter_le _ _) (by omega)))
  refine L (D_v (R_assign rfl) ?_)
  refine S_nil ?_
  refine T_tn ?_
  refine wp_seq ?_
  refine W_region ?_
  refine L (D_makeMap (fun aM3_0 w3_0 e3_0 gM3_0 zM3_0 => ?_))
  have hM3_0 := Mp.new zM3_0
  have lM3_0 := Nat.le_trans hE.size gM3_0
  replace hE := hE.trans e3_0
  replace o2_2 := o2_2.ext e3_0
  replace hys := hys.fb (Fb.ext e3_0)
  refine L (D_v (R_assign rfl) ?_)
  refine S_nil ?_
  refine T_tn ?_
  refine wp_seq ?_
  refine W_region ?_
  refine L (D_alloc112 (fun aB4_0 w4_0 e4_0 gB4_0 hB4_0 => ?_))
  have lB4_0 := Nat.le_trans hE.size gB4_0
  have nM3_0B4_0 := hM3_0.ne gB4_0
  replace hE := hE.trans e4_0
  replace hM3_0 := hM3_0.ext e4_0
  replace o2_2 := o2_2.ext e4_0
  replace hys := hys.fb (Fb.ext e4_0)
  refine S_nil ?_
  refine T_tn ?_
  refine wp_seq ?_
  refine W_region ?_
  refine L (D_alloc (c := (((List.replicate 10 false)).map Value.bool)) Try.zeroValue113 rfl (fun aB5_0 w5_0 e5_0 gB5_0 hB5_0 => ?_))
  have lB5_0 := Nat.le_trans hE.size gB5_0
  have nM3_0B5_0 := hM3_0.ne gB5_0
  have nB4_0B5_0 := hB4_0.ne gB5_0
  replace hE := hE.trans e5_0
  replace hM3_0 := hM3_0.ext e5_0
  replace hB4_0 := hB4_0.ext e5_0
  replace o2_2 := o2_2.ext e5_0
  replace hys := hys.fb (Fb.ext e5_0)
  refine S_nil ?_
  refine T_tn ?_
  refine wp_seq ?_
  refine wp_seq ?_
  refine W_region ?_
  refine L (D_v (R_move rfl) ?_)
  refine L (D_v (R_len Try.underlying46 rfl o2_2.ls.1) ?_)
  refine L (D_v (R_move rfl) ?_)
  refine S_nil ?_
  refine T_tn ?_
  refine wp_block ?_
  refine W_loop (fun mz g W => ∃ (i : Nat) (fs : List Sg) (es : List Ev) (bs : List Bool), mz = y2_2.length - i ∧ g 6 = .map (some aM3_0) ∧ g 7 = .pointer (some ⟨aB4_0, 0, none⟩) ∧ g 8 = .pointer (some ⟨aB5_0, 0, none⟩) ∧ g 22 = v2_2 ∧ g 23 = i64 (((y2_2).length : Nat) : Int) ∧ g 24 = i64 ((i : Nat) : Int) ∧ Ext w W ∧ Mp W aM3_0 (fs) ∧ Blk W aB4_0 (cE.cs es) 112 ∧ Blk W aB5_0 ((bs).map Value.bool) 113 ∧ Ow cS lo w.heap.size W v2_2 y2_2 ∧ AllS lo W y2_2 ∧ i ≤ y2_2.length ∧ (∀ a ∈ fs, a ∈ y2_2) ∧ ((∀ e ∈ es, e = Ev.zero ∨ e.a ∈ y2_2 ∧ e.b ∈ y2_2)) ∧ Fs ((y2_2.take i).map Sg.p) fs bs es) ⟨0, _, _, _, rfl, rfl, rfl, rfl, rfl, rfl, rfl, hE, hM3_0, hB4_0, hB5_0, o2_2, hys, (Nat.zero_le _), (by simp), (fun e he => .inl (List.eq_of_mem_replicate he)), Fs.zero⟩ ?_
  rintro mz f7 w7l ⟨i, fs, es, bs, hm, q6, q7, q8, q22, q23, q24, hE, hM3_0, hB4_0, hB5_0, ov2_2, hys, hi, hfs, hev, hst⟩
  refine wp_seq ?_
  refine W_region ?_
  refine L (D_v (R_lssI q24 q23) ?_)
  refine S_nil ?_
  refine T_tn ?_
  refine wp_seq ?_
  refine W_if rfl (fun c1 => ?_) (fun c1 => ?_)
  ·
    have lk : i < y2_2.length := by have h9 := of_decide_eq_true c1; omega
    have hym : (y2_2.getD i Sg.zero) ∈ y2_2 := List.mem_of_getElem? (getD_some lk)
    have hvy := hyv _ hym
    have hva := verK_valid hvy
    have hsr := valid_signer hva
    have hsn : (y2_2.getD i Sg.zero).vote.signer = (((y2_2.getD i Sg.zero).vote.signer.toNat : Nat) : Int) := (Int.toNat_of_nonneg hsr.1).symm
    have hs10 : (y2_2.getD i Sg.zero).vote.signer.toNat < 10 := by have h8 : (y2_2.getD i Sg.zero).vote.signer ≤ 9 := hsr.2; omega
    refine wp_skip ?_
    refine T_tn ?_
    refine wp_seq ?_
    refine wp_block ?_
    refine wp_seq ?_
    refine W_region ?_
    refine L (D_v (R_elAddr (i := i) Try.underlying46 Try.sizeOf53 q22 q24 ov2_2.ls.1 (by (try simp only [List.length_take, List.length_drop, List.length_append, List.length_cons, List.length_nil, List.length_replicate, List.length_set, Nm.b_len, be2_len]); omega)) ?_)
    have k9_1 := (ov2_2.ls).get (i := i) (getD_some (d := Sg.zero) (by (try simp only [List.length_take, List.length_drop, List.length_append, List.length_cons, List.length_nil, List.length_replicate, List.length_set, Nm.b_len, be2_len]); omega))
    refine L (D_v (R_ldL (C := cS) (i := i) (y := ((y2_2).getD (i) Sg.zero)) Try.isAgg53 Try.sizeOf53 rfl ov2_2.ls (getD_some (d := Sg.zero) (by (try simp only [List.length_take, List.length_drop, List.length_append, List.length_cons, List.length_nil, List.length_replicate, List.length_set, Nm.b_len, be2_len]); omega))) ?_)
    refine L (D_alloc (c := (Sg.zero).l) Try.zeroValue53 rfl (fun aB9_2 w9_2 e9_2 gB9_2 hB9_2 => ?_))
    have lB9_2 := Nat.le_trans hE.size gB9_2
    have nM3_0B9_2 := hM3_0.ne gB9_2
    have nB4_0B9_2 := hB4_0.ne gB9_2
    have nB5_0B9_2 := hB5_0.ne gB9_2
    have yv2_2_B9_2 : Value.ownBlock v2_2 ≠ some aB9_2 := fun hk => absurd (own_lt ov2_2.1 hk) (Nat.not_lt.2 gB9_2)
    replace hE := hE.trans e9_2
    replace hM3_0 := hM3_0.ext e9_2
    replace hB4_0 := hB4_0.ext e9_2
    replace hB5_0 := hB5_0.ext e9_2
    replace ov2_2 := ov2_2.ext e9_2
    replace hys := hys.fb (Fb.ext e9_2)
    replace k9_1 := k9_1.fb (Fb.ext e9_2)
    have xov2_2 := yv2_2_B9_2
    have h0 := hB9_2
    refine L (D_storeA Try.sizeOf53 hB9_2 rfl rfl rfl rfl rfl (l' := (((y2_2).getD (i) Sg.zero)).l) rfl (fun w9_3 k9_3 hB9_2 => ?_))
    have f9_3 := Fb.kp k9_3 (Nat.le_trans hlo lB9_2) (Blk.notB h0 rfl)
    replace hE := hE.kp k9_3 lB9_2
    replace hM3_0 := hM3_0.kp k9_3 nM3_0B9_2
    replace hB4_0 := hB4_0.kp k9_3 nB4_0B9_2
    replace hB5_0 := hB5_0.kp k9_3 nB5_0B9_2
    replace ov2_2 := ov2_2.kp k9_3 xov2_2 f9_3
    replace hys := hys.fb f9_3
    replace k9_1 := k9_1.fb f9_3
    refine S_nil ?_
    refine T_tn ?_
    refine wp_seq ?_
    refine W_region ?_
    refine L (D_v (R_fieldAddr Try.runUnderlying53 rfl Try.sizeOf26 rfl) ?_)
    refine L (D_v (R_fieldAddr Try.runUnderlying26 rfl Try.sizeOf3 rfl) ?_)
    refine L (D_v (R_load Try.isAgg3 hB9_2 rfl rfl) ?_)
    refine L (D_v (R_assign rfl) ?_)
    refine S_nil ?_
    refine T_tn ?_
    refine wp_seq ?_
    refine W_region ?_
    refine L (D_v (R_move q6) ?_)
    refine L (D_v (R_fieldAddr Try.runUnderlying53 rfl Try.sizeOf26 rfl) ?_)
    refine L (D_v (R_loadA (c := ((((y2_2).getD (i) Sg.zero)).vote).l) Try.isAgg26 Try.sizeOf26 hB9_2 rfl rfl rfl) ?_)
    refine L (D_call (R_callF Try.call103 rfl rfl) (c103 ((((y2_2).getD (i) Sg.zero)).vote) _) (fun w11_3 e11_3 => ?_))
    replace hE := hE.trans e11_3
    replace hM3_0 := hM3_0.ext e11_3
    replace hB4_0 := hB4_0.ext e11_3
    replace hB5_0 := hB5_0.ext e11_3
    replace hB9_2 := hB9_2.ext e11_3
    replace ov2_2 := ov2_2.ext e11_3
    replace hys := hys.fb (Fb.ext e11_3)
    replace k9_1 := k9_1.fb (Fb.ext e11_3)
    have k11_4 : Sg.okf lo _ (lookG (fs) ((((y2_2).getD (i) Sg.zero)).vote)) := lookG_ok hys hfs
    refine L (D_v (R_lookup (fs := fs) (v := (((y2_2).getD (i) Sg.zero)).vote) rfl rfl hM3_0 hva) ?_)
    refine L (D_v (R_move rfl) ?_)
    refine L (D_v (R_extract rfl rfl) ?_)
    refine L (D_v (R_extract rfl rfl) ?_)
    refine L (D_alloc (c := (Sg.zero).l) Try.zeroValue53 rfl (fun aB11_8 w11_8 e11_8 gB11_8 hB11_8 => ?_))
    have lB11_8 := Nat.le_trans hE.size gB11_8
    have nM3_0B11_8 := hM3_0.ne gB11_8
    have nB4_0B11_8 := hB4_0.ne gB11_8
    have nB5_0B11_8 := hB5_0.ne gB11_8
    have nB9_2B11_8 := hB9_2.ne gB11_8
    have yv2_2_B11_8 : Value.ownBlock v2_2 ≠ some aB11_8 := fun hk => absurd (own_lt ov2_2.1 hk) (Nat.not_lt.2 gB11_8)
    replace hE := hE.trans e11_8
    replace hM3_0 := hM3_0.ext e11_8
    replace hB4_0 := hB4_0.ext e11_8
    replace hB5_0 := hB5_0.ext e11_8
    replace hB9_2 := hB9_2.ext e11_8
    replace ov2_2 := ov2_2.ext e11_8
    replace hys := hys.fb (Fb.ext e11_8)
    replace k9_1 := k9_1.fb (Fb.ext e11_8)
    replace k11_4 := k11_4.fb (Fb.ext e11_8)
    have xov2_2 := yv2_2_B11_8
    have h0 := hB11_8
    refine L (D_storeA Try.sizeOf53 hB11_8 rfl rfl rfl rfl rfl (l' := ((lookG (fs) ((((y2_2).getD (i) Sg.zero)).vote))).l) rfl (fun w11_9 k11_9 hB11_8 => ?_))
    have f11_9 := Fb.kp k11_9 (Nat.le_trans hlo lB11_8) (Blk.notB h0 rfl)
    replace hE := hE.kp k11_9 lB11_8
    replace hM3_0 := hM3_0.kp k11_9 nM3_0B11_8
    replace hB4_0 := hB4_0.kp k11_9 nB4_0B11_8
    replace hB5_0 := hB5_0.kp k11_9 nB5_0B11_8
    replace hB9_2 := hB9_2.kp k11_9 nB9_2B11_8
    replace ov2_2 := ov2_2.kp k11_9 xov2_2 f11_9
    replace hys := hys.fb f11_9
    replace k9_1 := k9_1.fb f11_9
    replace k11_4 := k11_4.fb f11_9
    refine L (D_v (R_assign rfl) ?_)
    refine S_nil ?_
    refine T_tn ?_
    refine wp_seq ?_
    refine wp_seq ?_
    refine W_region ?_
    refine L (D_v (R_move rfl) ?_)
    refine L (D_v (R_not rfl) ?_)
    refine S_nil ?_
    refine T_tn ?_
    refine W_if rfl (fun c2 => ?_) (fun c2 => ?_)
    ·
      have hlb : lookB fs (y2_2.getD i Sg.zero).vote = false := by simpa using c2
      have hst2 := hst.no lk hlb
      refine wp_seq ?_
      refine W_held (fun W => Ext w W ∧ Blk W aB4_0 (cE.cs es) 112 ∧ Blk W aB5_0 ((bs).map Value.bool) 113 ∧ Blk W aB9_2 (((y2_2).getD (i) Sg.zero)).l 53 ∧ Ow cS lo w.heap.size W v2_2 y2_2 ∧ AllS lo W y2_2 ∧ Sg.okf lo W (((y2_2).getD (i) Sg.zero)) ∧ Sg.okf lo W (lookG (fs) ((((y2_2).getD (i) Sg.zero)).vote)) ∧ True) mixed (fun w13_99 e13_99 => ?_)
      replace hE := hE.trans e13_99
      replace hM3_0 := hM3_0.ext e13_99
      replace hB4_0 := hB4_0.ext e13_99
      replace hB5_0 := hB5_0.ext e13_99
      replace hB9_2 := hB9_2.ext e13_99
      replace ov2_2 := ov2_2.ext e13_99
      replace hys := hys.fb (Fb.ext e13_99)
      replace k9_1 := k9_1.fb (Fb.ext e13_99)
      replace k11_4 := k11_4.fb (Fb.ext e13_99)
      refine H_take (i := 0) rfl (by kernel_rfl) (by kernel_rfl) (by kernel_rfl) rfl (pq_then (pq_then (pq_block (pq_then (pq_then (pq_block (pq_then pq_body))))))) ⟨hE, hB4_0, hB5_0, hB9_2, ov2_2, hys, k9_1, k11_4, trivial⟩ rfl (fun w hw => R_move q6) ?_
      refine H_take (i := 1) rfl (by kernel_rfl) (by kernel_rfl) (by kernel_rfl) rfl (pq_then (pq_then (pq_block (pq_then (pq_then (pq_block (pq_then pq_body))))))) ⟨hE, hB4_0, hB5_0, hB9_2, ov2_2, hys, k9_1, k11_4, trivial⟩ rfl (fun w hw => R_fieldAddr Try.runUnderlying53 rfl Try.sizeOf26 rfl) ?_
      refine H_take (i := 2) rfl (by kernel_rfl) (by kernel_rfl) (by kernel_rfl) rfl (pq_then (pq_then (pq_block (pq_then (pq_then (pq_block (pq_then pq_body))))))) ⟨hE, hB4_0, hB5_0, hB9_2, ov2_2, hys, k9_1, k11_4, trivial⟩ rfl (fun w hw => R_loadA (c := ((((y2_2).getD (i) Sg.zero)).vote).l) Try.isAgg26 Try.sizeOf26 hw.2.2.2.1 rfl rfl rfl) ?_
      refine H_take (i := 4) rfl (by kernel_rfl) (by kernel_rfl) (by kernel_rfl) rfl (pq_then (pq_then (pq_block (pq_then (pq_then (pq_block (pq_then pq_body))))))) ⟨hE, hB4_0, hB5_0, hB9_2, ov2_2, hys, k9_1, k11_4, trivial⟩ rfl (fun w hw => R_loadA (c := (((y2_2).getD (i) Sg.zero)).l) Try.isAgg53 Try.sizeOf53 hw.2.2.2.1 rfl rfl rfl) ?_
      refine H_op (i := 3) (by kernel_rfl) rfl rfl (D_call (R_callF Try.call103 rfl rfl) (c103 ((((y2_2).getD (i) Sg.zero)).vote) _) (fun w13_3 e13_3 => ?_))
      replace hE := hE.trans e13_3
      replace hM3_0 := hM3_0.ext e13_3
      replace hB4_0 := hB4_0.ext e13_3
      replace hB5_0 := hB5_0.ext e13_3
      replace hB9_2 := hB9_2.ext e13_3
      replace ov2_2 := ov2_2.ext e13_3
      replace hys := hys.fb (Fb.ext e13_3)
      replace k9_1 := k9_1.fb (Fb.ext e13_3)
      replace k11_4 := k11_4.fb (Fb.ext e13_3)
      refine ⟨⟨hE, hB4_0, hB5_0, hB9_2, ov2_2, hys, k9_1, k11_4, trivial⟩, ?_⟩
      have xov2_2 := own_neM ov2_2.1 hM3_0
      have h0 := hM3_0
      refine H_op (i := 5) (by kernel_rfl) rfl rfl (D_mapUp (s := ((y2_2).getD (i) Sg.zero)) rfl rfl rfl hM3_0 hva hlb (fun w13_5 k13_5 hM3_0 => ?_))
      have f13_5 := Fb.kp k13_5 (Nat.le_trans hlo lM3_0) (Mp.notB h0 rfl)
      replace hE := hE.kp k13_5 lM3_0
      replace hB4_0 := hB4_0.kp k13_5 nM3_0B4_0.symm
      replace hB5_0 := hB5_0.kp k13_5 nM3_0B5_0.symm
      replace hB9_2 := hB9_2.kp k13_5 nM3_0B9_2.symm
      replace ov2_2 := ov2_2.kp k13_5 xov2_2 f13_5
      replace hys := hys.fb f13_5
      replace k9_1 := k9_1.fb f13_5
      replace k11_4 := k11_4.fb f13_5
      refine ⟨⟨hE, hB4_0, hB5_0, hB9_2, ov2_2, hys, k9_1, k11_4, trivial⟩, ?_⟩
      refine H_done (by kernel_rfl) ?_
      refine T_tn ?_
      refine wp_exit ?_
      refine T_te ?_
      refine T_be ?_
      refine T_tn ?_
      refine W_region ?_
      refine L (D_v (R_addN (m := i) (j := 1) q24 rfl (by (try simp only [List.length_take, List.length_drop, List.length_append, List.length_cons, List.length_nil, List.length_replicate, List.length_set, Nm.b_len, be2_len]); omega)) ?_)
      refine L (D_v (R_move rfl) ?_)
      refine S_nil ?_
      refine T_tn ?_
      refine ⟨_, _, ?_, rfl, i + 1, _, _, _, rfl, q6, q7, q8, q22, q23, rfl, hE, hM3_0, hB4_0, hB5_0, ov2_2, hys, ?_, ?_, ?_, ?_⟩
      all_goals first | omega | exact hst2 | exact hfs | exact hev | (intro a ha; exact (List.mem_append.1 ha).elim (hfs a) (fun h1 => by rw [List.mem_singleton.1 h1]; exact hym)) | exact ev_set hev (hfs _ hlm.1) hym
    ·
      have hlb : lookB fs (y2_2.getD i Sg.zero).vote = true := by simpa using c2
      have hlm := lookG_mem hlb
      refine wp_skip ?_
      refine T_tn ?_
      refine wp_seq ?_
      refine W_region ?_
      refine L (D_v (R_loadA (c := ((lookG (fs) ((((y2_2).getD (i) Sg.zero)).vote))).l) Try.isAgg53 Try.sizeOf53 hB11_8 rfl rfl rfl) ?_)
      refine L (D_v (R_loadA (c := (((y2_2).getD (i) Sg.zero)).l) Try.isAgg53 Try.sizeOf53 hB9_2 rfl rfl rfl) ?_)
      have k13_2 : Ev.okf lo w11_9 (⟨(lookG (fs) ((((y2_2).getD (i) Sg.zero)).vote)), ((y2_2).getD (i) Sg.zero)⟩ : Ev) := ⟨k11_4, k9_1⟩
      refine L (D_v (R_buildS (vs := [(0, .agg ((lookG (fs) ((((y2_2).getD (i) Sg.zero)).vote))).l.toArray), (1, .agg (((y2_2).getD (i) Sg.zero)).l.toArray)]) (c := (⟨(lookG (fs) ((((y2_2).getD (i) Sg.zero)).vote)), ((y2_2).getD (i) Sg.zero)⟩ : Ev).l) Try.runUnderlying55 places55 Try.zeroValue55 (mapp2 rfl rfl) (fill55 _ _)) ?_)
      refine L (D_alloc (c := (Ev.zero).l) Try.zeroValue55 rfl (fun aB13_3 w13_3 e13_3 gB13_3 hB13_3 => ?_))
      have lB13_3 := Nat.le_trans hE.size gB13_3
      have nM3_0B13_3 := hM3_0.ne gB13_3
      have nB4_0B13_3 := hB4_0.ne gB13_3
      have nB5_0B13_3 := hB5_0.ne gB13_3
      have nB9_2B13_3 := hB9_2.ne gB13_3
      have nB11_8B13_3 := hB11_8.ne gB13_3
      replace hE := hE.trans e13_3
      replace hM3_0 := hM3_0.ext e13_3
      replace hB4_0 := hB4_0.ext e13_3
      replace hB5_0 := hB5_0.ext e13_3
      replace hB9_2 := hB9_2.ext e13_3
      replace hB11_8 := hB11_8.ext e13_3
      replace ov2_2 := ov2_2.ext e13_3
      replace hys := hys.fb (Fb.ext e13_3)
      replace k9_1 := k9_1.fb (Fb.ext e13_3)
      replace k11_4 := k11_4.fb (Fb.ext e13_3)
      replace k13_2 := k13_2.fb (Fb.ext e13_3)
      have xov2_2 := own_neB ov2_2.1 hB13_3 rfl
      have h0 := hB13_3
      refine L (D_storeA Try.sizeOf55 hB13_3 rfl rfl rfl rfl rfl (l' := ((⟨(lookG (fs) ((((y2_2).getD (i) Sg.zero)).vote)), ((y2_2).getD (i) Sg.zero)⟩ : Ev)).l) rfl (fun w13_4 k13_4 hB13_3 => ?_))
      have f13_4 := Fb.kp k13_4 (Nat.le_trans hlo lB13_3) (Blk.notB h0 rfl)
      replace hE := hE.kp k13_4 lB13_3
      replace hM3_0 := hM3_0.kp k13_4 nM3_0B13_3
      replace hB4_0 := hB4_0.kp k13_4 nB4_0B13_3
      replace hB5_0 := hB5_0.kp k13_4 nB5_0B13_3
      replace hB9_2 := hB9_2.kp k13_4 nB9_2B13_3
      replace hB11_8 := hB11_8.kp k13_4 nB11_8B13_3
      replace ov2_2 := ov2_2.kp k13_4 xov2_2 f13_4
      replace hys := hys.fb f13_4
      replace k9_1 := k9_1.fb f13_4
      replace k11_4 := k11_4.fb f13_4
      replace k13_2 := k13_2.fb f13_4
      refine S_nil ?_
      refine T_tn ?_
      refine wp_seq ?_
      refine W_draw mixed (by kernel_rfl) ?_
      refine Q_v (fun w hw => R_move rfl) ?_
      refine Q_v (fun w hw => R_ixE (i := ((((y2_2).getD (i) Sg.zero)).vote.signer).toNat) Try.runUnderlying113 Try.sizeOf4 q8 (Eq.trans rfl (congrArg i64 hsn)) hs10) ?_
      refine Q_v (fun w hw => R_ldBs (hB5_0.ext hw) rfl (by have := hst.2; omega)) ?_
      refine Q_v (fun w hw => R_not rfl) ?_
      refine Q_v (fun w hw => R_move rfl) ?_
      refine Q_g1 rfl rfl (fun hb w hw => R_fieldAddr Try.runUnderlying53 rfl Try.sizeOf26 rfl) ?_
      refine Q_g1 rfl rfl (fun hb w hw => R_loadA (c := (((lookG (fs) ((((y2_2).getD (i) Sg.zero)).vote))).vote).l) Try.isAgg26 Try.sizeOf26 (hB11_8.ext hw) (cgE hb) rfl rfl) ?_
      refine Q_g1 rfl rfl (fun hb w hw => R_move rfl) ?_
      refine Q_g1 rfl rfl (fun hb w hw => R_ixE (i := ((((y2_2).getD (i) Sg.zero)).vote.signer).toNat) Try.runUnderlying112 Try.sizeOf55 q7 (Eq.trans (cgE hb) (congrArg i64 hsn)) hs10) ?_
      refine Q_g1 rfl rfl (fun hb w hw => R_fieldAddr Try.runUnderlying55 rfl Try.sizeOf53 (cgE hb)) ?_
      refine Q_g1 rfl rfl (fun hb w hw => R_fieldAddr Try.runUnderlying53 rfl Try.sizeOf26 (cgE hb)) ?_
      refine Q_g1 rfl rfl (fun hb w hw => R_ldVe (hB4_0.ext hw) (cgE hb) (by have := hst.2; omega)) ?_
      refine Q_gc1 rfl rfl (fun hb w hw => R_callF Try.call33 (mapv2 (cgE hb) (cgE hb)) rfl) (fun hb w hw => c33 (((lookG (fs) ((((y2_2).getD (i) Sg.zero)).vote))).vote) (((es).getD ((((y2_2).getD (i) Sg.zero)).vote.signer).toNat Ev.zero).a.vote) _ ) ?_
      refine Q_v (fun w hw => R_pickO rfl rfl rfl) ?_
      refine Q_nil (fun w14_99 e14_99 => ?_)
      replace hE := hE.trans e14_99
      replace hM3_0 := hM3_0.ext e14_99
      replace hB4_0 := hB4_0.ext e14_99
      replace hB5_0 := hB5_0.ext e14_99
      replace hB11_8 := hB11_8.ext e14_99
      replace hB13_3 := hB13_3.ext e14_99
      replace ov2_2 := ov2_2.ext e14_99
      replace hys := hys.fb (Fb.ext e14_99)
      replace k9_1 := k9_1.fb (Fb.ext e14_99)
      replace k11_4 := k11_4.fb (Fb.ext e14_99)
      replace k13_2 := k13_2.fb (Fb.ext e14_99)
      refine T_tn ?_
      refine W_if rfl (fun c3 => ?_) (fun c3 => ?_)
      ·
        have hst2 := hst.yes lk hlb hs10 c3
        refine W_region ?_
        refine L (D_v (R_move rfl) ?_)
        refine L (D_v (R_move rfl) ?_)
        refine L (D_v (R_loadA (c := ((⟨(lookG (fs) ((((y2_2).getD (i) Sg.zero)).vote)), ((y2_2).getD (i) Sg.zero)⟩ : Ev)).l) Try.isAgg55 Try.sizeOf55 hB13_3 rfl rfl rfl) ?_)
        refine L (D_v (R_ixE (i := ((((y2_2).getD (i) Sg.zero)).vote.signer).toNat) Try.runUnderlying112 Try.sizeOf55 q7 (Eq.trans rfl (congrArg i64 hsn)) hs10) ?_)
        have xov2_2 := own_neB ov2_2.1 hB4_0 rfl
        have h0 := hB4_0
        refine L (D_stEv (e := (⟨(lookG (fs) ((((y2_2).getD (i) Sg.zero)).vote)), ((y2_2).getD (i) Sg.zero)⟩ : Ev)) hB4_0 rfl rfl (by have := hst.2; omega) (fun w15_4 k15_4 hB4_0 => ?_))
        have f15_4 := Fb.kp k15_4 (Nat.le_trans hlo lB4_0) (Blk.notB h0 rfl)
        replace hE := hE.kp k15_4 lB4_0
        replace hM3_0 := hM3_0.kp k15_4 nM3_0B4_0
        replace hB5_0 := hB5_0.kp k15_4 nB4_0B5_0.symm
        replace hB13_3 := hB13_3.kp k15_4 nB4_0B13_3.symm
        replace ov2_2 := ov2_2.kp k15_4 xov2_2 f15_4
        replace hys := hys.fb f15_4
        replace k9_1 := k9_1.fb f15_4
        replace k11_4 := k11_4.fb f15_4
        replace k13_2 := k13_2.fb f15_4
        refine L (D_v (R_ixE (i := ((((y2_2).getD (i) Sg.zero)).vote.signer).toNat) Try.runUnderlying113 Try.sizeOf4 q8 (Eq.trans rfl (congrArg i64 hsn)) hs10) ?_)
        have xov2_2 := own_neB ov2_2.1 hB5_0 rfl
        have h0 := hB5_0
        refine L (D_stBl (b := true) hB5_0 rfl rfl (by have := hst.2; omega) (fun w15_6 k15_6 hB5_0 => ?_))
        have f15_6 := Fb.kp k15_6 (Nat.le_trans hlo lB5_0) (Blk.notB h0 rfl)
        replace hE := hE.kp k15_6 lB5_0
        replace hM3_0 := hM3_0.kp k15_6 nM3_0B5_0
        replace hB4_0 := hB4_0.kp k15_6 nB4_0B5_0
        replace hB13_3 := hB13_3.kp k15_6 nB5_0B13_3.symm
        replace ov2_2 := ov2_2.kp k15_6 xov2_2 f15_6
        replace hys := hys.fb f15_6
        replace k9_1 := k9_1.fb f15_6
        replace k11_4 := k11_4.fb f15_6
        replace k13_2 := k13_2.fb f15_6
        refine S_nil ?_
        refine T_bn ?_
        refine T_tn ?_
        refine W_region ?_
        refine L (D_v (R_addN (m := i) (j := 1) q24 rfl (by (try simp only [List.length_take, List.length_drop, List.length_append, List.length_cons, List.length_nil, List.length_replicate, List.length_set, Nm.b_len, be2_len]); omega)) ?_)
        refine L (D_v (R_move rfl) ?_)
        refine S_nil ?_
        refine T_tn ?_
        refine ⟨_, _, ?_, rfl, i + 1, _, _, _, rfl, q6, q7, q8, q22, q23, rfl, hE, hM3_0, hB4_0, hB5_0, ov2_2, hys, ?_, ?_, ?_, ?_⟩
        all_goals first | omega | exact hst2 | exact hfs | exact hev | (intro a ha; exact (List.mem_append.1 ha).elim (hfs a) (fun h1 => by rw [List.mem_singleton.1 h1]; exact hym)) | exact ev_set hev (hfs _ hlm.1) hym
      ·
        have hst2 := hst.same lk hlb hs10 c3
        refine wp_skip ?_
        refine T_bn ?_
        refine T_tn ?_
        refine W_region ?_
        refine L (D_v (R_addN (m := i) (j := 1) q24 rfl (by (try simp only [List.length_take, List.length_drop, List.length_append, List.length_cons, List.length_nil, List.length_replicate, List.length_set, Nm.b_len, be2_len]); omega)) ?_)
        refine L (D_v (R_move rfl) ?_)
        refine S_nil ?_
        refine T_tn ?_
        refine ⟨_, _, ?_, rfl, i + 1, _, _, _, rfl, q6, q7, q8, q22, q23, rfl, hE, hM3_0, hB4_0, hB5_0, ov2_2, hys, ?_, ?_, ?_, ?_⟩
        all_goals first | omega | exact hst2 | exact hfs | exact hev | (intro a ha; exact (List.mem_append.1 ha).elim (hfs a) (fun h1 => by rw [List.mem_singleton.1 h1]; exact hym)) | exact ev_set hev (hfs _ hlm.1) hym
  ·
    obtain rfl : i = y2_2.length := by have h9 := of_decide_eq_false c1; omega
    rw [List.take_of_length_le (Nat.le_refl _), hyE] at hst
    refine wp_exit ?_
    refine T_te ?_
    refine T_te ?_
    refine T_be ?_
    refine T_tn ?_
    refine wp_seq ?_
    refine W_region ?_
    refine L (D_v (R_assign rfl) ?_)
    refine S_nil ?_
    refine T_tn ?_
    refine wp_seq ?_
    refine wp_seq ?_
    refine W_region ?_
    refine L (D_v (R_ldWhole Try.isAgg112 Try.sizeOf112 hB4_0 q7 (by rw [cE_len]; have := hst.2; omega)) ?_)
    refine L (D_v (R_move rfl) ?_)
    refine S_nil ?_
    refine T_tn ?_
    refine wp_block ?_
    refine W_loop (fun mz g W => ∃ (i : Nat) (os : List Ev) (r15 : Value), mz = 10 - i ∧ g 8 = .pointer (some ⟨aB5_0, 0, none⟩) ∧ g 15 = r15 ∧ g 69 = .agg (cE.cs es).toArray ∧ g 70 = i64 ((i : Nat) : Int) ∧ Ext w W ∧ Blk W aB5_0 ((bs).map Value.bool) 113 ∧ Ow cE lo w.heap.size W r15 os ∧ AllS lo W y2_2 ∧ i ≤ 10 ∧ os.length ≤ i ∧ os.map Ev.p = outE bs es i) ⟨0, [], _, rfl, q8, rfl, rfl, rfl, hE, hB5_0, (Ow.nil cE lo _ _), hys, (Nat.zero_le _), (by simp), rfl⟩ ?_
    rintro mz f11 w11l ⟨i, os, r15, hm, q8, q15, q69, q70, hE, hB5_0, or15, hys, hi, hol, ho⟩
    refine wp_seq ?_
    refine W_region ?_
    refine L (D_v (R_lssI q70 rfl) ?_)
    refine S_nil ?_
    refine T_tn ?_
    refine wp_seq ?_
    refine W_if rfl (fun c2 => ?_) (fun c2 => ?_)
    ·
      have lk : i < 10 := by have h9 := of_decide_eq_true c2; omega
      refine wp_skip ?_
      refine T_tn ?_
      refine wp_seq ?_
      refine wp_block ?_
      refine wp_seq ?_
      refine W_region ?_
      refine L (D_v (R_move q70) ?_)
      have k13_1 : Ev.okf lo _ ((es).getD i Ev.zero) := evok hys hev
      refine L (D_v (R_ixAgg (i := i) Try.runUnderlying112 q69 q70 (by have := hst.2; omega) (by omega)) ?_)
      refine L (D_alloc (c := (Ev.zero).l) Try.zeroValue55 rfl (fun aB13_2 w13_2 e13_2 gB13_2 hB13_2 => ?_))
      have lB13_2 := Nat.le_trans hE.size gB13_2
      have nB5_0B13_2 := hB5_0.ne gB13_2
      have yr15_B13_2 : Value.ownBlock r15 ≠ some aB13_2 := fun hk => absurd (own_lt or15.1 hk) (Nat.not_lt.2 gB13_2)
      replace hE := hE.trans e13_2
      replace hB5_0 := hB5_0.ext e13_2
      replace or15 := or15.ext e13_2
      replace hys := hys.fb (Fb.ext e13_2)
      replace k13_1 := k13_1.fb (Fb.ext e13_2)
      refine L (D_v (R_assign rfl) ?_)
      have xor15 := yr15_B13_2
      have h0 := hB13_2
      refine L (D_storeA Try.sizeOf55 hB13_2 rfl rfl rfl rfl rfl (l' := (((es).getD i Ev.zero)).l) rfl (fun w13_4 k13_4 hB13_2 => ?_))
      have f13_4 := Fb.kp k13_4 (Nat.le_trans hlo lB13_2) (Blk.notB h0 rfl)
      replace hE := hE.kp k13_4 lB13_2
      replace hB5_0 := hB5_0.kp k13_4 nB5_0B13_2
      replace or15 := or15.kp k13_4 xor15 f13_4
      replace hys := hys.fb f13_4
      replace k13_1 := k13_1.fb f13_4
      refine S_nil ?_
      refine T_tn ?_
      refine wp_seq ?_
      refine W_region ?_
      refine L (D_v (R_move rfl) ?_)
      refine L (D_v (R_ixE (i := i) Try.runUnderlying113 Try.sizeOf4 q8 rfl (by omega)) ?_)
      refine L (D_v (R_ldBs hB5_0 rfl (by have := hst.2; omega)) ?_)
      refine S_nil ?_
      refine T_tn ?_
      refine W_if rfl (fun c3 => ?_) (fun c3 => ?_)
      ·
        have hout := outE_y (bs := bs) (es := es) (i := i) (by have := hst.2; omega) (by have := hst.2; omega) c3
        have hem := ev_sig hyv hev (i := i)
        refine W_held (fun W => Ext w W ∧ Blk W aB5_0 ((bs).map Value.bool) 113 ∧ Blk W aB13_2 (((es).getD i Ev.zero)).l 55 ∧ AllS lo W y2_2 ∧ Ev.okf lo W ((es).getD i Ev.zero) ∧ True) mixed (fun w15_99 e15_99 => ?_)
        replace hE := hE.trans e15_99
        replace hB5_0 := hB5_0.ext e15_99
        replace hB13_2 := hB13_2.ext e15_99
        replace or15 := or15.ext e15_99
        replace hys := hys.fb (Fb.ext e15_99)
        replace k13_1 := k13_1.fb (Fb.ext e15_99)
        refine H_take (i := 0) rfl (by kernel_rfl) (by kernel_rfl) (by kernel_rfl) rfl (pq_block (pq_then (pq_then (pq_block (pq_then pq_body))))) ⟨hE, hB5_0, hB13_2, hys, k13_1, trivial⟩ rfl (fun w hw => R_move q15) ?_
        refine H_take (i := 1) rfl (by kernel_rfl) (by kernel_rfl) (by kernel_rfl) rfl (pq_block (pq_then (pq_then (pq_block (pq_then pq_body))))) ⟨hE, hB5_0, hB13_2, hys, k13_1, trivial⟩ rfl (fun w hw => R_fieldAddr Try.runUnderlying55 rfl Try.sizeOf53 rfl) ?_
        refine H_take (i := 2) rfl (by kernel_rfl) (by kernel_rfl) (by kernel_rfl) rfl (pq_block (pq_then (pq_then (pq_block (pq_then pq_body))))) ⟨hE, hB5_0, hB13_2, hys, k13_1, trivial⟩ rfl (fun w hw => R_loadA (c := ((((es).getD i Ev.zero)).a).l) Try.isAgg53 Try.sizeOf53 hw.2.2.1 rfl rfl rfl) ?_
        refine H_take (i := 4) rfl (by kernel_rfl) (by kernel_rfl) (by kernel_rfl) rfl (pq_block (pq_then (pq_then (pq_block (pq_then pq_body))))) ⟨hE, hB5_0, hB13_2, hys, k13_1, trivial⟩ rfl (fun w hw => R_fieldAddr Try.runUnderlying55 rfl Try.sizeOf53 rfl) ?_
        refine H_take (i := 5) rfl (by kernel_rfl) (by kernel_rfl) (by kernel_rfl) rfl (pq_block (pq_then (pq_then (pq_block (pq_then pq_body))))) ⟨hE, hB5_0, hB13_2, hys, k13_1, trivial⟩ rfl (fun w hw => R_loadA (c := ((((es).getD i Ev.zero)).b).l) Try.isAgg53 Try.sizeOf53 hw.2.2.1 rfl rfl rfl) ?_
        refine H_op (i := 3) (by kernel_rfl) rfl rfl (D_callE (R_callF Try.call104 rfl rfl) (c104 ((((es).getD i Ev.zero)).a) _ ((k13_1.1).up (Nat.le_trans hlo hE.size)) hem.1) (fun v15_3 w15_3 e15_3 p15_3 => ?_))
        obtain ⟨x15_3, rfl, p15_3a, k15_3⟩ := p15_3
        replace hE := hE.trans e15_3
        replace hB5_0 := hB5_0.ext e15_3
        replace hB13_2 := hB13_2.ext e15_3
        replace or15 := or15.ext e15_3
        replace hys := hys.fb (Fb.ext e15_3)
        replace k13_1 := k13_1.fb (Fb.ext e15_3)
        refine ⟨⟨hE, hB5_0, hB13_2, hys, k13_1, trivial⟩, ?_⟩
        refine H_op (i := 6) (by kernel_rfl) rfl rfl (D_callE (R_callF Try.call104 rfl rfl) (c104 ((((es).getD i Ev.zero)).b) _ ((k13_1.2).up (Nat.le_trans hlo hE.size)) hem.2) (fun v15_6 w15_6 e15_6 p15_6 => ?_))
        obtain ⟨x15_6, rfl, p15_6a, k15_6⟩ := p15_6
        replace hE := hE.trans e15_6
        replace hB5_0 := hB5_0.ext e15_6
        replace hB13_2 := hB13_2.ext e15_6
        replace or15 := or15.ext e15_6
        replace hys := hys.fb (Fb.ext e15_6)
        replace k13_1 := k13_1.fb (Fb.ext e15_6)
        replace k15_3 := k15_3.fb (Fb.ext e15_6)
        refine ⟨⟨hE, hB5_0, hB13_2, hys, k13_1, trivial⟩, ?_⟩
        have k15_7 : Ev.okf lo w15_6 (⟨x15_3, x15_6⟩ : Ev) := ⟨(k15_3.up (Nat.zero_le _)), (k15_6.up (Nat.zero_le _))⟩
        refine H_op (i := 7) (by kernel_rfl) rfl rfl (D_v (R_buildS (vs := [(0, .agg (x15_3).l.toArray), (1, .agg (x15_6).l.toArray)]) (c := (⟨x15_3, x15_6⟩ : Ev).l) Try.runUnderlying55 places55 Try.zeroValue55 (mapp2 rfl rfl) (fill55 _ _)) ⟨⟨hE, hB5_0, hB13_2, hys, k13_1, trivial⟩, ?_⟩)
        refine H_op (i := 8) (by kernel_rfl) rfl rfl (D_buildL1 (C := cE) (lo := lo) (y := (⟨x15_3, x15_6⟩ : Ev)) Try.underlying42 Try.sizeOf55 Try.zeroValue55 (mapp1 rfl) (by decide) k15_7 (fun v15_8 w15_8 o15_8 e15_8 => ?_))
        have yv15_8_B13_2 : Value.ownBlock v15_8 ≠ some aB13_2 := fun hk => absurd (own_ge o15_8.1 hk) (Nat.not_le.2 hB13_2.lt)
        have zr15_v15_8 := own_apart or15.1 o15_8.1
        have zv15_8_r15 := fun k hk hk2 => zr15_v15_8 k hk2 hk
        replace o15_8 := o15_8.low hE.size
        replace hE := hE.trans e15_8
        replace hB5_0 := hB5_0.ext e15_8
        replace hB13_2 := hB13_2.ext e15_8
        replace or15 := or15.ext e15_8
        replace hys := hys.fb (Fb.ext e15_8)
        replace k13_1 := k13_1.fb (Fb.ext e15_8)
        replace k15_3 := k15_3.fb (Fb.ext e15_8)
        replace k15_6 := k15_6.fb (Fb.ext e15_8)
        replace k15_7 := k15_7.fb (Fb.ext e15_8)
        refine ⟨⟨hE, hB5_0, hB13_2, hys, k13_1, trivial⟩, ?_⟩
        refine H_op (i := 9) (by kernel_rfl) rfl rfl (D_appendL elt55 Try.underlying42 rfl rfl or15 hlo o15_8.ls (by (try simp only [List.length_take, List.length_drop, List.length_append, List.length_cons, List.length_nil, List.length_replicate, List.length_set, Nm.b_len, be2_len]); omega) (by (try simp only [List.length_take, List.length_drop, List.length_append, List.length_cons, List.length_nil, List.length_replicate, List.length_set, Nm.b_len, be2_len]); omega) hE.size (fun v15_9 w15_9 o15_9 g15_9 f15_9 sv15_9 => ?_))
        have yv15_9_B13_2 : Value.ownBlock v15_9 ≠ some aB13_2 := fun hk => (sv15_9 _ hk).elim yr15_B13_2 (fun h => absurd h (Nat.not_le.2 hB13_2.lt))
        have zv15_8_v15_9 : ∀ k, Value.ownBlock v15_8 = some k → Value.ownBlock v15_9 ≠ some k := fun k hk2 hk => (sv15_9 _ hk).elim (fun h => zv15_8_r15 k hk2 h) (fun h => absurd h (Nat.not_le.2 (own_lt o15_8.1 hk2)))
        have zv15_9_v15_8 := fun k hk hk2 => zv15_8_v15_9 k hk2 hk
        replace hE := hE.grown g15_9 (fun k hk => own_ge or15.1 hk)
        replace hB5_0 := hB5_0.grown g15_9 (own_neB or15.1 hB5_0 rfl)
        replace hB13_2 := hB13_2.grown g15_9 (yr15_B13_2)
        replace o15_8 := o15_8.grown g15_9 (zv15_8_r15) f15_9
        replace hys := hys.fb f15_9
        replace k13_1 := k13_1.fb f15_9
        replace k15_3 := k15_3.fb (Fb.grown g15_9 (fun k hk => ⟨Nat.zero_le _, (own_notB or15.1 rfl k hk).2⟩))
        replace k15_6 := k15_6.fb (Fb.grown g15_9 (fun k hk => ⟨Nat.zero_le _, (own_notB or15.1 rfl k hk).2⟩))
        replace k15_7 := k15_7.fb f15_9
        refine ⟨⟨hE, hB5_0, hB13_2, hys, k13_1, trivial⟩, ?_⟩
        refine H_take (i := 10) rfl (by kernel_rfl) (by kernel_rfl) (by kernel_rfl) rfl (pq_block (pq_then (pq_then (pq_block (pq_then pq_body))))) ⟨hE, hB5_0, hB13_2, hys, k13_1, trivial⟩ rfl (fun w hw => R_assign rfl) ?_
        refine H_done (by kernel_rfl) ?_
        refine T_bn ?_
        refine T_tn ?_
        refine W_region ?_
        refine L (D_v (R_addN (m := i) (j := 1) q70 rfl (by (try simp only [List.length_take, List.length_drop, List.length_append, List.length_cons, List.length_nil, List.length_replicate, List.length_set, Nm.b_len, be2_len]); omega)) ?_)
        refine L (D_v (R_move rfl) ?_)
        refine S_nil ?_
        refine T_tn ?_
        refine ⟨_, _, ?_, rfl, i + 1, _, _, rfl, q8, rfl, q69, rfl, hE, hB5_0, o15_9, hys, ?_, ?_, ?_⟩
        all_goals first | omega | (rw [hout]; exact ho) | (simp only [List.length_append, List.length_cons, List.length_nil]; omega) | (rw [hout, List.map_append, ho]; exact congrArg (fun z => outE bs es i ++ [z]) (Prod.ext p15_3a p15_6a))
      ·
        have hout := outE_n (bs := bs) (es := es) (i := i) (by have := hst.2; omega) (by have := hst.2; omega) c3
        refine wp_skip ?_
        refine T_bn ?_
        refine T_tn ?_
        refine W_region ?_
        refine L (D_v (R_addN (m := i) (j := 1) q70 rfl (by (try simp only [List.length_take, List.length_drop, List.length_append, List.length_cons, List.length_nil, List.length_replicate, List.length_set, Nm.b_len, be2_len]); omega)) ?_)
        refine L (D_v (R_move rfl) ?_)
        refine S_nil ?_
        refine T_tn ?_
        refine ⟨_, _, ?_, rfl, i + 1, _, _, rfl, q8, q15, q69, rfl, hE, hB5_0, or15, hys, ?_, ?_, ?_⟩
        all_goals first | omega | (rw [hout]; exact ho)
    ·
      obtain rfl : i = 10 := by have h9 := of_decide_eq_false c2; omega
      refine wp_exit ?_
      refine T_te ?_
      refine T_te ?_
      refine T_be ?_
      refine T_tn ?_
      refine wp_seq ?_
      refine W_region ?_
      refine L (D_v (R_move q15) ?_)
      refine L (D_v (R_assign rfl) ?_)
      refine S_nil ?_
      refine T_tn ?_
      refine wp_ret ?_
      refine ret1 (v := r15) rfl rfl ⟨_, rfl, hE, ?_⟩
      exact ⟨_, or15, ho.trans (outE_all hst)⟩
set_option maxRecDepth 4000 in
set_option maxHeartbeats 2000000 in
theorem c71 (vk : Value) (keys : List Nm) (lo : Nat) (v : Value) (xs : List Sg) (w : World) (hk : Ls cN w.heap.size w vk keys) (hlo : lo ≤ w.heap.size) (hn : xs.length ≤ 1000000) (h : Ls cS lo w v xs) : Calls Try.prog 71 [vk, v].toArray w (Ret w (i64 (gk keys xs))) := by
  refine enter Try.func71 Try.ntmps71 rfl rfl ?_
  have hE := Ext.refl w
  refine wp_seq ?_
  refine W_region ?_
  refine L (D_v (R_assign rfl) ?_)
  refine S_nil ?_
  refine T_tn ?_
  refine wp_seq ?_
  refine W_region ?_
  refine L (D_v (R_assign rfl) ?_)
  refine S_nil ?_
  refine T_tn ?_
  refine wp_seq ?_
  refine wp_seq ?_
  refine W_region ?_
  refine L (D_v (R_move rfl) ?_)
  refine L (D_v (R_move rfl) ?_)
  refine L (D_callE (R_callF Try.call73 rfl rfl) (c73 vk (keys) lo v (xs) _ ((hk.ext hE).lev fun _ _ _ => trivial) (Nat.le_trans hlo hE.size) (by (try simp only [List.length_take, List.length_drop, List.length_append, List.length_cons, List.length_nil, List.length_replicate, List.length_set, Nm.b_len, be2_len]); omega) (h.ext hE)) (fun v3_2 w3_2 e3_2 p3_2 => ?_))
  obtain ⟨e3_2a, o3_2, pe3_2⟩ := p3_2
  replace o3_2 := o3_2.low hE.size
  replace hE := hE.trans e3_2
  have hel := evs_el pe3_2
  refine L (D_v (R_len Try.underlying42 rfl o3_2.ls.1) ?_)
  refine L (D_v (R_move rfl) ?_)
  refine S_nil ?_
  refine T_tn ?_
  refine wp_block ?_
  refine W_loop (fun mz g W => ∃ (i : Nat) (gu : Int), mz = e3_2a.length - i ∧ g 5 = i64 gu ∧ g 10 = v3_2 ∧ g 11 = i64 (((e3_2a).length : Nat) : Int) ∧ g 12 = i64 ((i : Nat) : Int) ∧ Ext w W ∧ Ow cE lo w.heap.size W v3_2 e3_2a ∧ i ≤ e3_2a.length ∧ gu = maskP ((e3_2a.take i).map Ev.p) 0) ⟨0, 0, rfl, rfl, rfl, rfl, rfl, hE, o3_2, (Nat.zero_le _), rfl⟩ ?_
  rintro mz f4 w4l ⟨i, gu, hm, q5, q10, q11, q12, hE, ov3_2, hi, hg⟩
  refine wp_seq ?_
  refine W_region ?_
  refine L (D_v (R_lssI q12 q11) ?_)
  refine S_nil ?_
  refine T_tn ?_
  refine wp_seq ?_
  refine W_if rfl (fun c1 => ?_) (fun c1 => ?_)
  ·
    have lk : i < e3_2a.length := by have h9 := of_decide_eq_true c1; omega
    have hsg := evs_sg pe3_2 lk
    refine wp_skip ?_
    refine T_tn ?_
    refine wp_seq ?_
    refine wp_block ?_
    refine wp_seq ?_
    refine W_region ?_
    refine L (D_v (R_elAddr (i := i) Try.underlying42 Try.sizeOf55 q10 q12 ov3_2.ls.1 (by (try simp only [List.length_take, List.length_drop, List.length_append, List.length_cons, List.length_nil, List.length_replicate, List.length_set, Nm.b_len, be2_len]); omega)) ?_)
    have k6_1 := (ov3_2.ls).get (i := i) (getD_some (d := Ev.zero) (by (try simp only [List.length_take, List.length_drop, List.length_append, List.length_cons, List.length_nil, List.length_replicate, List.length_set, Nm.b_len, be2_len]); omega))
    refine L (D_v (R_ldL (C := cE) (i := i) (y := ((e3_2a).getD (i) Ev.zero)) Try.isAgg55 Try.sizeOf55 rfl ov3_2.ls (getD_some (d := Ev.zero) (by (try simp only [List.length_take, List.length_drop, List.length_append, List.length_cons, List.length_nil, List.length_replicate, List.length_set, Nm.b_len, be2_len]); omega))) ?_)
    refine L (D_alloc (c := (Ev.zero).l) Try.zeroValue55 rfl (fun aB6_2 w6_2 e6_2 gB6_2 hB6_2 => ?_))
    have lB6_2 := Nat.le_trans hE.size gB6_2
    have yv3_2_B6_2 : Value.ownBlock v3_2 ≠ some aB6_2 := fun hk => absurd (own_lt ov3_2.1 hk) (Nat.not_lt.2 gB6_2)
    replace hE := hE.trans e6_2
    replace ov3_2 := ov3_2.ext e6_2
    replace k6_1 := k6_1.fb (Fb.ext e6_2)
    have xov3_2 := yv3_2_B6_2
    have h0 := hB6_2
    refine L (D_storeA Try.sizeOf55 hB6_2 rfl rfl rfl rfl rfl (l' := (((e3_2a).getD (i) Ev.zero)).l) rfl (fun w6_3 k6_3 hB6_2 => ?_))
    have f6_3 := Fb.kp k6_3 (Nat.le_trans hlo lB6_2) (Blk.notB h0 rfl)
    replace hE := hE.kp k6_3 lB6_2
    replace ov3_2 := ov3_2.kp k6_3 xov3_2 f6_3
    replace k6_1 := k6_1.fb f6_3
    refine S_nil ?_
    refine T_tn ?_
    refine W_region ?_
    refine L (D_v (R_move q5) ?_)
    refine L (D_v (R_fieldAddr Try.runUnderlying55 rfl Try.sizeOf53 rfl) ?_)
    refine L (D_v (R_fieldAddr Try.runUnderlying53 rfl Try.sizeOf26 rfl) ?_)
    refine L (D_v (R_fieldAddr Try.runUnderlying26 rfl Try.sizeOf3 rfl) ?_)
    refine L (D_v (R_load Try.isAgg3 hB6_2 rfl rfl) ?_)
    refine L (D_v (R_bit (s := ((((e3_2a).getD (i) Ev.zero)).a).vote.signer) rfl rfl hsg) ?_)
    refine L (D_v (R_orI rfl rfl) ?_)
    refine L (D_v (R_assign rfl) ?_)
    refine S_nil ?_
    refine T_bn ?_
    refine T_tn ?_
    refine W_region ?_
    refine L (D_v (R_addN (m := i) (j := 1) q12 rfl (by (try simp only [List.length_take, List.length_drop, List.length_append, List.length_cons, List.length_nil, List.length_replicate, List.length_set, Nm.b_len, be2_len]); omega)) ?_)
    refine L (D_v (R_move rfl) ?_)
    refine S_nil ?_
    refine T_tn ?_
    refine ⟨_, _, ?_, rfl, i + 1, _, rfl, rfl, q10, q11, rfl, hE, ov3_2, ?_, ?_⟩
    all_goals first | omega | exact mask_step hg lk
  ·
    obtain rfl : i = e3_2a.length := by have h9 := of_decide_eq_false c1; omega
    refine wp_exit ?_
    refine T_te ?_
    refine T_te ?_
    refine T_be ?_
    refine T_tn ?_
    refine wp_seq ?_
    refine W_region ?_
    refine L (D_v (R_move q5) ?_)
    refine L (D_v (R_assign rfl) ?_)
    refine S_nil ?_
    refine T_tn ?_
    refine wp_ret ?_
    refine ret1 (v := .int _ _) rfl rfl ⟨?_, hE⟩
    rw [hg, mask_all pe3_2]; rfl
end Go.Proofs.Yteeopgpgbdhmhaa
namespace Go.Proofs.Yteeopgpgbdhmhaa
open Go.RowKit Go.Lib
set_option linter.unusedVariables false
theorem sameS_iff {a b : Pv} : sameS a b = true ↔ a = b := by
  unfold sameS
  simp only [Bool.and_eq_true, decide_eq_true_eq]
  exact ⟨fun h => Prod.ext h.1 h.2, fun h => by rw [h]; exact ⟨rfl, rfl⟩⟩
end Go.Proofs.Yteeopgpgbdhmhaa
namespace Go.Proofs.Yteeopgpgbdhmhaa
open Go.RowKit Go.Lib
set_option linter.unusedVariables false
theorem ret_b {P : Program} {F : FuncId} {args : Array Value} {w : World} {b c : Bool} (h : Calls P F args w (Ret w (.bool b))) (e : b = c) : Calls P F args w (Ret w (.bool c)) := e ▸ h
end Go.Proofs.Yteeopgpgbdhmhaa
namespace Go.Proofs.Yteeopgpgbdhmhaa
open Go.ChangeShapes Go.WideShapes Go.ChangeAt Go.RowKit Go.Lib
set_option linter.unusedVariables false
set_option maxRecDepth 20000
set_option linter.constructorNameAsVariable false
section
variable {H : Type} {enc : TypeId × Value → H} {w : World} {base : Nat} {sp : Nat → Bool} {held : Bool}
def EvIn (w : World) (v : Value) (x : Ev) : Prop := v = x.v ∧ x.okf w.heap.size w ∧ x.a.vote.wf ∧ x.b.vote.wf
end
theorem not_or2 {a b v : Bool} (h : (!a || !b) = v) : (a && b) = !v := by subst h; cases a <;> cases b <;> rfl
theorem D_buildL0 {α : Type} {C : Cd α} {P : Program} {ops : Array Oper} {Q : Exit → Act → World → Prop} {K : Act → World → Prop} {n : Nat} {f : Nat → Value} {w : World} {d : Option Tmp} {ty : TypeId} {pos : String} {aft : Array Edge} {lo : Nat} {t : TypeId}
    (ht : P.underlying t = some (.slice C.e)) (hs : ∀ w, (sizeOf C.e).run P w = .ok C.sz w)
    (h : ∀ v' w', Ow C lo w.heap.size w' v' [] → Ext w w' → K (E n (upo f d v')) w') : wpO P ops Q ⟨d, .buildSlice t 0 #[], ty, pos, aft, none⟩ K (E n f) w := by
  refine D_v (v := .slice (some ⟨w.heap.size, 0, none⟩) 0 0) (w' := w.alloc (.cells #[] C.e)) ?_ ?_
  · simp [go_sem, Instr.buildSlice, run_underlying ht, hs, Instr.fill]
  · refine h _ _ ⟨⟨by simp [Cd.cs], .inr ⟨w.heap.size, 0, _, rfl, Nat.le_refl _, heap_alloc_new w _, Nat.le_refl _, by simp [maxLen], by simp, by simp [Cd.cs]⟩⟩, by simp⟩ (Ext.alloc _ _)
theorem Ls.upE {lo lo' : Nat} {w : World} {v : Value} {xs : List Ev} (h : Ls cE lo w v xs) (hl : lo ≤ lo') : Ls cE lo' w v xs := ⟨h.1, fun x hx => (h.2 x hx).up hl⟩
theorem idx_lo {s n : Int} (h : (decide (s < 0) || decide (s ≥ n) || decide (s ≥ 10)) = false) : 0 ≤ s := by
  simp only [Bool.or_eq_false_iff, decide_eq_false_iff_not] at h
  omega
theorem idx_hi {s : Int} {n : Nat} (h : (decide (s < 0) || decide (s ≥ ((n : Nat) : Int)) || decide (s ≥ 10)) = false) : s.toNat < n := by
  simp only [Bool.or_eq_false_iff, decide_eq_false_iff_not] at h
  omega
def pairsS (xs ys : List Ev) : Bool := decide (xs.map Ev.p = ys.map Ev.p)
theorem pairsS_len {xs ys : List Ev} (h : xs.length ≠ ys.length) : pairsS xs ys = false := by
  unfold pairsS
  refine decide_eq_false fun e => h ?_
  have := congrArg List.length e
  simpa using this
theorem pairsS_at {xs ys : List Ev} {i : Nat} (hx : i < xs.length) (hy : i < ys.length) (h : (sameS (xs.getD i Ev.zero).a.p (ys.getD i Ev.zero).a.p && sameS (xs.getD i Ev.zero).b.p (ys.getD i Ev.zero).b.p) = false) : pairsS xs ys = false := by
  unfold pairsS
  refine decide_eq_false fun e => ?_
  have h1 := congrArg (fun l => l[i]?) e
  simp only [List.getElem?_map, getD_some (d := Ev.zero) hx, getD_some (d := Ev.zero) hy, Option.map_some, Option.some.injEq] at h1
  have h2 : (xs.getD i Ev.zero).a.p = (ys.getD i Ev.zero).a.p := congrArg Prod.fst h1
  have h3 : (xs.getD i Ev.zero).b.p = (ys.getD i Ev.zero).b.p := congrArg Prod.snd h1
  rw [h2, h3, sameS_refl, sameS_refl] at h; cases h
theorem pairsS_next {xs ys : List Ev} {i : Nat} (ha : (xs.take i).map Ev.p = (ys.take i).map Ev.p) (hx : i < xs.length) (hy : i < ys.length) (h : (sameS (xs.getD i Ev.zero).a.p (ys.getD i Ev.zero).a.p && sameS (xs.getD i Ev.zero).b.p (ys.getD i Ev.zero).b.p) = true) : (xs.take (i + 1)).map Ev.p = (ys.take (i + 1)).map Ev.p := by
  rw [Bool.and_eq_true] at h
  have h1 : (xs.getD i Ev.zero).p = (ys.getD i Ev.zero).p := Prod.ext (sameS_iff.1 h.1) (sameS_iff.1 h.2)
  rw [List.take_add_one, List.take_add_one, List.map_append, List.map_append, ha, getD_some (d := Ev.zero) hx, getD_some (d := Ev.zero) hy]
  simp only [Option.toList_some, List.map_cons, List.map_nil, h1]
theorem pairsS_all {xs ys : List Ev} (hl : xs.length = ys.length) (ha : (xs.take xs.length).map Ev.p = (ys.take xs.length).map Ev.p) : pairsS xs ys = true := by
  unfold pairsS
  refine decide_eq_true ?_
  rw [List.take_of_length_le (Nat.le_refl _), List.take_of_length_le (by omega)] at ha
  exact ha
theorem canP_nil : canP [] = [] := (canP_eq IsCan.nil).symm
theorem gk_nil : gk [] [] = 0 := by
  unfold gk evs
  show guiltyP (canP []) = 0
  rw [canP_nil]; rfl
def Pq (keys : List Nm) (X : List Sg) (n : Nat) (b : Int) : Prop := ∃ a c : Nat, c < a ∧ a < n ∧ ∃ x y, X[a]? = some x ∧ X[c]? = some y ∧ verK keys x.p = true ∧ verK keys y.p = true ∧ conflict x.vote y.vote = true ∧ x.vote.signer = b
def Pqi (keys : List Nm) (X : List Sg) (n k : Nat) (b : Int) : Prop := Pq keys X n b ∨ ∃ c : Nat, c < k ∧ ∃ x y, X[n]? = some x ∧ X[c]? = some y ∧ verK keys x.p = true ∧ verK keys y.p = true ∧ conflict x.vote y.vote = true ∧ x.vote.signer = b
theorem Pq_zero {keys : List Nm} {X : List Sg} {b : Int} : ¬ Pq keys X 0 b := by rintro ⟨a, c, _, h, _⟩; omega
theorem Pqi_zero {keys : List Nm} {X : List Sg} {n : Nat} {b : Int} : Pqi keys X n 0 b ↔ Pq keys X n b := by
  constructor
  · rintro (h | ⟨c, h, _⟩)
    · exact h
    · omega
  · exact .inl
theorem Pqi_all {keys : List Nm} {X : List Sg} {n : Nat} {b : Int} : Pqi keys X n n b ↔ Pq keys X (n + 1) b := by
  constructor
  · rintro (⟨a, c, h1, h2, h3⟩ | ⟨c, h1, h2⟩)
    · exact ⟨a, c, h1, by omega, h3⟩
    · exact ⟨n, c, h1, by omega, h2⟩
  · rintro ⟨a, c, h1, h2, h3⟩
    by_cases e : a = n
    · subst e; exact .inr ⟨c, h1, h3⟩
    · exact .inl ⟨a, c, h1, by omega, h3⟩
theorem Pq_skip {keys : List Nm} {X : List Sg} {n : Nat} {b : Int} (h : verK keys (X.getD n Sg.zero).p = false) : Pq keys X (n + 1) b ↔ Pq keys X n b := by
  rw [← Pqi_all]
  constructor
  · rintro (h1 | ⟨c, h1, x, y, hx, _, hv, _⟩)
    · exact h1
    · have : X.getD n Sg.zero = x := by rw [List.getD_eq_getElem?_getD, hx]; rfl
      rw [this, hv] at h; cases h
  · exact .inl
theorem verK_of {keys : List Nm} {s : Sg} (h : (decide (s.vote.signer < 0) || decide (s.vote.signer ≥ ((keys.length : Nat) : Int)) || decide (s.vote.signer ≥ 10) || !(verP (keyAt keys s.vote.signer) s.p)) = false) : verK keys s.p = true := by
  simp only [Bool.or_eq_false_iff, decide_eq_false_iff_not, Bool.not_eq_false'] at h
  unfold verK
  rw [Bool.and_eq_true, Bool.and_eq_true]
  exact ⟨⟨decide_eq_true (by have := h.1.1.1; show 0 ≤ s.vote.signer; omega), decide_eq_true (by have := h.1.1.2; show s.vote.signer < _; omega)⟩, h.2⟩
theorem verK_not {keys : List Nm} {s : Sg} (h : (decide (s.vote.signer < 0) || decide (s.vote.signer ≥ ((keys.length : Nat) : Int)) || decide (s.vote.signer ≥ 10) || !(verP (keyAt keys s.vote.signer) s.p)) = true) : verK keys s.p = false := by
  cases e : verK keys s.p with
  | false => rfl
  | true =>
    obtain ⟨h1, h2, h3⟩ := verK_parts e
    have h4 := (valid_signer (verK_valid e)).2
    have k1 : 0 ≤ s.vote.signer := h1
    have k2 : s.vote.signer < ((keys.length : Nat) : Int) := h2
    have k4 : s.vote.signer ≤ 9 := h4
    have k3 : verP (keyAt keys s.vote.signer) s.p = true := h3
    rw [decide_eq_false (show ¬ s.vote.signer < 0 by omega), decide_eq_false (show ¬ s.vote.signer ≥ ((keys.length : Nat) : Int) by omega), decide_eq_false (show ¬ s.vote.signer ≥ 10 by omega), k3] at h
    cases h
theorem Pqi_yes {keys : List Nm} {X : List Sg} {n k : Nat} {m : Int} (hn : n < X.length) (hk : k < X.length) (hm : 0 ≤ m ∧ m < 1024) (h : ∀ b : Int, hasB m b = true ↔ Pqi keys X n k b) (hv : verK keys (X.getD n Sg.zero).p = true)
    (hc : (conflict (X.getD n Sg.zero).vote (X.getD k Sg.zero).vote && verP (keyAt keys (X.getD n Sg.zero).vote.signer) (X.getD k Sg.zero).p) = true) (b : Int) : hasB (bits .or .i64 m (bitI (X.getD n Sg.zero).vote.signer)) b = true ↔ Pqi keys X n (k + 1) b := by
  rw [Bool.and_eq_true] at hc
  have hs := sameKey_signer (conflict_parts hc.1).2.2.1
  have hr := valid_signer (verK_valid hv)
  have hr' : 0 ≤ (X.getD n Sg.zero).vote.signer ∧ (X.getD n Sg.zero).vote.signer ≤ 9 := hr
  obtain ⟨_, hlt, _⟩ := verK_parts hv
  have hvk : verK keys (X.getD k Sg.zero).p = true := by
    unfold verK
    have e : (X.getD k Sg.zero).p.1.signer = (X.getD n Sg.zero).vote.signer := hs.symm
    rw [e, hc.2, decide_eq_true hr'.1, decide_eq_true (show (X.getD n Sg.zero).vote.signer < _ from hlt)]; rfl
  have add : ∀ b, Pqi keys X n (k + 1) b ↔ Pqi keys X n k b ∨ (X.getD n Sg.zero).vote.signer = b := by
    intro b
    constructor
    · rintro (h1 | ⟨c, h1, x, y, hx, hy, h2⟩)
      · exact .inl (.inl h1)
      · by_cases e : c = k
        · right
          have : X.getD n Sg.zero = x := by rw [List.getD_eq_getElem?_getD, hx]; rfl
          rw [this]; exact h2.2.2.2
        · exact .inl (.inr ⟨c, by omega, x, y, hx, hy, h2⟩)
    · rintro (h1 | h1)
      · rcases h1 with h1 | ⟨c, h1, h2⟩
        · exact .inl h1
        · exact .inr ⟨c, by omega, h2⟩
      · exact .inr ⟨k, by omega, _, _, getD_some hn, getD_some hk, hv, hvk, hc.1, h1⟩
  rw [add, ← h]
  by_cases e : (X.getD n Sg.zero).vote.signer = b
  · rw [← e, hasB_self hm hr']; simp
  · rw [hasB_or hm hr' e]
    constructor
    · exact .inl
    · rintro (h1 | h1)
      · exact h1
      · exact absurd h1 e
theorem Pqi_no {keys : List Nm} {X : List Sg} {n k : Nat} {b : Int} (hv : verK keys (X.getD n Sg.zero).p = true)
    (hc : (conflict (X.getD n Sg.zero).vote (X.getD k Sg.zero).vote && verP (keyAt keys (X.getD n Sg.zero).vote.signer) (X.getD k Sg.zero).p) = false) : Pqi keys X n (k + 1) b ↔ Pqi keys X n k b := by
  constructor
  · rintro (h1 | ⟨c, h1, x, y, hx, hy, h2, h3, h4, h5⟩)
    · exact .inl h1
    · by_cases e : c = k
      · exfalso
        subst e
        have e1 : X.getD n Sg.zero = x := by rw [List.getD_eq_getElem?_getD, hx]; rfl
        have e2 : X.getD c Sg.zero = y := by rw [List.getD_eq_getElem?_getD, hy]; rfl
        rw [e1, e2, h4] at hc
        have hs := sameKey_signer (conflict_parts h4).2.2.1
        obtain ⟨_, _, k3⟩ := verK_parts h3
        have k4 : verP (keyAt keys x.vote.signer) y.p = true := by rw [hs]; exact k3
        rw [k4] at hc; cases hc
      · exact .inr ⟨c, by omega, x, y, hx, hy, h2, h3, h4, h5⟩
  · rintro (h1 | ⟨c, h1, h2⟩)
    · exact .inl h1
    · exact .inr ⟨c, by omega, h2⟩
theorem Pq_end {keys : List Nm} {X : List Sg} {m : Int} (hm : 0 ≤ m ∧ m < 1024) (h : ∀ b : Int, hasB m b = true ↔ Pq keys X X.length b) : gk keys X = m := by
  refine mask_ext (gk_in keys X) hm fun i _ _ => ?_
  rw [Bool.eq_iff_iff, guilty_pairs, h]
  constructor
  · rintro ⟨a, c, h1, x, y, hx, h2⟩
    exact ⟨a, c, h1, (List.getElem?_eq_some_iff.1 hx).1, x, y, hx, h2⟩
  · rintro ⟨a, c, h1, _, x, y, hx, h2⟩
    exact ⟨a, c, h1, x, y, hx, h2⟩
theorem es_get {keys : List Nm} {xs : List Sg} {es : List Ev} (h : es.map Ev.p = findP (evs keys xs)) {i : Nat} (hi : i < es.length) : validE keys (es.getD i Ev.zero).p = true ∧ (es.getD i Ev.zero).a.p ∈ xs.map Sg.p ∧ (es.getD i Ev.zero).b.p ∈ xs.map Sg.p ∧ 0 ≤ (es.getD i Ev.zero).a.vote.signer ∧ (es.getD i Ev.zero).a.vote.signer ≤ 9 := by
  have hm : (es.getD i Ev.zero).p ∈ findP (evs keys xs) := by rw [← h]; exact List.mem_map.2 ⟨_, List.mem_of_getElem? (getD_some (d := Ev.zero) hi), rfl⟩
  exact evs_sound hm
theorem es_up {keys : List Nm} {xs : List Sg} {es : List Ev} (h : es.map Ev.p = findP (evs keys xs)) {i : Nat} (h0 : 0 < i) (hi : i < es.length) : ¬ (es.getD i Ev.zero).a.vote.signer ≤ (es.getD (i - 1) Ev.zero).a.vote.signer := by
  have hu := evs_up keys xs
  rw [← h, List.pairwise_map] at hu
  have h1 := List.pairwise_iff_getElem.1 hu (i - 1) i (by omega) hi (by omega)
  have e1 : es.getD (i - 1) Ev.zero = es[i - 1] := by simp [List.getD, show i - 1 < es.length by omega]
  have e2 : es.getD i Ev.zero = es[i] := by simp [List.getD, hi]
  rw [e1, e2]
  have h2 : es[i - 1].a.vote.signer < es[i].a.vote.signer := h1
  omega
theorem mem_idx {X : List Sg} {p : Pv} (h : p ∈ X.map Sg.p) : ∃ q : Nat, q < X.length ∧ (X.getD q Sg.zero).p = p := by
  obtain ⟨x, hx, rfl⟩ := List.mem_map.1 h
  obtain ⟨q, hq⟩ := List.getElem?_of_mem hx
  exact ⟨q, (List.getElem?_eq_some_iff.1 hq).1, by rw [List.getD_eq_getElem?_getD, hq]; rfl⟩
theorem gk_l {keys : List Nm} {l m : List Sg} : bits .andNot .i64 (gk keys l) (gk keys (([] ++ l) ++ m)) = 0 :=
  andNot_zero (gk_in _ _) (gk_in _ _) fun i _ _ => gk_grow (fun p hp => by simp only [List.nil_append, List.map_append, List.mem_append]; exact .inl hp) i
theorem gk_r {keys : List Nm} {l m : List Sg} : bits .andNot .i64 (gk keys m) (gk keys (([] ++ l) ++ m)) = 0 :=
  andNot_zero (gk_in _ _) (gk_in _ _) fun i _ _ => gk_grow (fun p hp => by simp only [List.nil_append, List.map_append, List.mem_append]; exact .inr hp) i
theorem app_mem {l m : List Sg} (p : Pv) : p ∈ (([] ++ m) ++ l).map Sg.p ↔ p ∈ (([] ++ l) ++ m).map Sg.p := by
  simp only [List.nil_append, List.map_append, List.mem_append]
  exact Or.comm
theorem find_same {keys : List Nm} {l m : List Sg} {a b : List Ev} (ha : a.map Ev.p = findP (evs keys (([] ++ m) ++ l))) (hb : b.map Ev.p = findP (evs keys (([] ++ l) ++ m))) : pairsS a b = true := by
  unfold pairsS
  refine decide_eq_true ?_
  rw [ha, hb, evs_same app_mem]
end Go.Proofs.Yteeopgpgbdhmhaa
namespace Go.Proofs.Yteeopgpgbdhmhaa
open Go.RowKit
set_option linter.unusedVariables false
set_option linter.unusedSimpArgs false
attribute [local irreducible] wpList wpO H wpQuiet wpStill Code.wp Exit.then Exit.inBlock bodyPost Code.rounds Calls valid sameKey conflict lessV hless num between
set_option maxRecDepth 4000 in
set_option maxHeartbeats 1000000 in
theorem c77 (x y : Sg) (w : World) (hx : x.okf w.heap.size w) (hy : y.okf w.heap.size w) : Calls Try.prog 77 [x.v, y.v].toArray w (Ret w (.bool (sameS x.p y.p))) := by
  refine enter Try.func77 Try.ntmps77 rfl rfl ?_
  have hE := Ext.refl w
  refine wp_seq ?_
  refine W_region ?_
  refine L (D_box (c := (x).l) (rfl) (fun aB1_0 w1_0 e1_0 gB1_0 hB1_0 => ?_))
  have lB1_0 := Nat.le_trans hE.size gB1_0
  replace hE := hE.trans e1_0
  refine L (D_box (c := (y).l) (rfl) (fun aB1_1 w1_1 e1_1 gB1_1 hB1_1 => ?_))
  have lB1_1 := Nat.le_trans hE.size gB1_1
  have nB1_0B1_1 := hB1_0.ne gB1_1
  replace hE := hE.trans e1_1
  replace hB1_0 := hB1_0.ext e1_1
  refine L (D_v (R_assign rfl) ?_)
  refine S_nil ?_
  refine T_tn ?_
  refine wp_seq ?_
  refine W_region ?_
  refine L (D_v (R_fieldAddr Try.runUnderlying53 rfl Try.sizeOf26 rfl) ?_)
  refine L (D_v (R_loadA (c := ((x).vote).l) Try.isAgg26 Try.sizeOf26 hB1_0 rfl rfl rfl) ?_)
  refine L (D_v (R_fieldAddr Try.runUnderlying53 rfl Try.sizeOf26 rfl) ?_)
  refine L (D_v (R_loadA (c := ((y).vote).l) Try.isAgg26 Try.sizeOf26 hB1_1 rfl rfl rfl) ?_)
  refine L (D_v (R_eqlA Try.eqGuardType26 (eq26 ((x).vote) ((y).vote) _) rfl rfl) ?_)
  refine L (D_v (R_move rfl) ?_)
  refine L (D_g1 rfl rfl (fun hb => R_fieldAddr Try.runUnderlying53 rfl Try.sizeOf31 rfl) ?_)
  refine L (D_g1 rfl rfl (fun hb => R_load Try.isAgg31 hB1_0 (cgE hb) rfl) ?_)
  refine L (D_g1 rfl rfl (fun hb => R_str (b := (x).sig) (cgE hb) (hx.fb (Fb.ext hE)).bs) ?_)
  refine L (D_g1 rfl rfl (fun hb => R_fieldAddr Try.runUnderlying53 rfl Try.sizeOf31 rfl) ?_)
  refine L (D_g1 rfl rfl (fun hb => R_load Try.isAgg31 hB1_1 (cgE hb) rfl) ?_)
  refine L (D_g1 rfl rfl (fun hb => R_str (b := (y).sig) (cgE hb) (hy.fb (Fb.ext hE)).bs) ?_)
  refine L (D_g1 rfl rfl (fun hb => R_eqlStr (a := (x).sig) (b := (y).sig) (cgE hb) (cgE hb)) ?_)
  refine L (D_v (R_pickA rfl rfl rfl) ?_)
  refine L (D_v (R_assign rfl) ?_)
  refine S_nil ?_
  refine T_tn ?_
  refine wp_ret ?_
  refine ret1 (v := .bool _) rfl rfl ⟨?_, hE⟩
  rfl
set_option maxRecDepth 4000 in
set_option maxHeartbeats 2000000 in
theorem c76 (vk : Value) (keys : List Nm) (x : Ev) (w : World) (hk : Ls cN w.heap.size w vk keys) (hs : x.okf w.heap.size w) : Calls Try.prog 76 [vk, x.v].toArray w (Ret w (.bool (validE keys x.p))) := by
  refine enter Try.func76 Try.ntmps76 rfl rfl ?_
  have hE := Ext.refl w
  refine wp_seq ?_
  refine W_region ?_
  refine L (D_box (c := (x).l) (rfl) (fun aB1_0 w1_0 e1_0 gB1_0 hB1_0 => ?_))
  have lB1_0 := Nat.le_trans hE.size gB1_0
  replace hE := hE.trans e1_0
  refine L (D_v (R_assign rfl) ?_)
  refine S_nil ?_
  refine T_tn ?_
  refine wp_seq ?_
  refine W_region ?_
  refine L (D_v (R_fieldAddr Try.runUnderlying55 rfl Try.sizeOf53 rfl) ?_)
  refine L (D_v (R_fieldAddr Try.runUnderlying53 rfl Try.sizeOf26 rfl) ?_)
  refine L (D_v (R_loadA (c := ((x).a.vote).l) Try.isAgg26 Try.sizeOf26 hB1_0 rfl rfl rfl) ?_)
  refine L (D_v (R_fieldAddr Try.runUnderlying55 rfl Try.sizeOf53 rfl) ?_)
  refine L (D_v (R_fieldAddr Try.runUnderlying53 rfl Try.sizeOf26 rfl) ?_)
  refine L (D_v (R_loadA (c := ((x).b.vote).l) Try.isAgg26 Try.sizeOf26 hB1_0 rfl rfl rfl) ?_)
  refine L (D_call (R_callF Try.call31 rfl rfl) (c31 ((x).a.vote) ((x).b.vote) _ ) (fun w2_6 e2_6 => ?_))
  replace hE := hE.trans e2_6
  replace hB1_0 := hB1_0.ext e2_6
  refine L (D_v (R_move rfl) ?_)
  refine L (D_g1 rfl rfl (fun hb => R_fieldAddr Try.runUnderlying55 rfl Try.sizeOf53 rfl) ?_)
  refine L (D_g1 rfl rfl (fun hb => R_fieldAddr Try.runUnderlying53 rfl Try.sizeOf26 (cgE hb)) ?_)
  refine L (D_g1 rfl rfl (fun hb => R_loadA (c := ((x).a.vote).l) Try.isAgg26 Try.sizeOf26 hB1_0 (cgE hb) rfl rfl) ?_)
  refine L (D_g1 rfl rfl (fun hb => R_fieldAddr Try.runUnderlying55 rfl Try.sizeOf53 rfl) ?_)
  refine L (D_g1 rfl rfl (fun hb => R_fieldAddr Try.runUnderlying53 rfl Try.sizeOf26 (cgE hb)) ?_)
  refine L (D_g1 rfl rfl (fun hb => R_loadA (c := ((x).b.vote).l) Try.isAgg26 Try.sizeOf26 hB1_0 (cgE hb) rfl rfl) ?_)
  refine L (D_gc1 rfl rfl (fun hb => R_callF Try.call33 (mapv2 (cgE hb) (cgE hb)) rfl) (fun hb => c33 ((x).a.vote) ((x).b.vote) _ ) (fun w2_14 e2_14 => ?_))
  replace hE := hE.trans e2_14
  replace hB1_0 := hB1_0.ext e2_14
  refine L (D_v (R_pickA rfl rfl rfl) ?_)
  refine L (D_v (R_move rfl) ?_)
  refine L (D_g1 rfl rfl (fun hb => R_move rfl) ?_)
  refine L (D_g1 rfl rfl (fun hb => R_fieldAddr Try.runUnderlying55 rfl Try.sizeOf53 rfl) ?_)
  refine L (D_g1 rfl rfl (fun hb => R_loadA (c := ((x).a).l) Try.isAgg53 Try.sizeOf53 hB1_0 (cgE hb) rfl rfl) ?_)
  refine L (D_gc1 rfl rfl (fun hb => R_callF Try.call106 (mapv2 (cgE hb) (cgE hb)) rfl) (fun hb => c106 vk (keys) ((x).a) _ ((hk.ext hE).lev fun _ _ _ => trivial) (((hs.fb (Fb.ext hE)).1).up (Nat.le_trans (Nat.le_refl _) hE.size))) (fun w2_20 e2_20 => ?_))
  replace hE := hE.trans e2_20
  replace hB1_0 := hB1_0.ext e2_20
  refine L (D_v (R_pickA rfl rfl rfl) ?_)
  refine L (D_v (R_move rfl) ?_)
  refine L (D_g1 rfl rfl (fun hb => R_move rfl) ?_)
  refine L (D_g1 rfl rfl (fun hb => R_fieldAddr Try.runUnderlying55 rfl Try.sizeOf53 rfl) ?_)
  refine L (D_g1 rfl rfl (fun hb => R_loadA (c := ((x).b).l) Try.isAgg53 Try.sizeOf53 hB1_0 (cgE hb) rfl rfl) ?_)
  refine L (D_gc1 rfl rfl (fun hb => R_callF Try.call106 (mapv2 (cgE hb) (cgE hb)) rfl) (fun hb => c106 vk (keys) ((x).b) _ ((hk.ext hE).lev fun _ _ _ => trivial) (((hs.fb (Fb.ext hE)).2).up (Nat.le_trans (Nat.le_refl _) hE.size))) (fun w2_26 e2_26 => ?_))
  replace hE := hE.trans e2_26
  replace hB1_0 := hB1_0.ext e2_26
  refine L (D_v (R_pickA rfl rfl rfl) ?_)
  refine L (D_v (R_assign rfl) ?_)
  refine S_nil ?_
  refine T_tn ?_
  refine wp_ret ?_
  refine ret1 (v := .bool _) rfl rfl ⟨congrArg (fun b => Ending.returned (Value.bool b)) ?_, hE⟩
  rfl
set_option maxRecDepth 4000 in
set_option maxHeartbeats 1000000 in
theorem c70 (v : Value) (xs : List Sg) (w : World) (h : Ls cS w.heap.size w v xs) : Calls Try.prog 70 [v].toArray w (Ret w (cut60 v xs.length)) := by
  refine enter Try.func70 Try.ntmps70 rfl rfl ?_
  have hE := Ext.refl w
  refine wp_seq ?_
  refine W_region ?_
  refine L (D_v (R_assign rfl) ?_)
  refine S_nil ?_
  refine T_tn ?_
  refine wp_seq ?_
  refine wp_seq ?_
  refine W_region ?_
  refine L (D_v (R_move rfl) ?_)
  refine L (D_v (R_len Try.underlying46 rfl (h.ext hE).1) ?_)
  refine L (D_v (R_gtrI rfl rfl) ?_)
  refine S_nil ?_
  refine T_tn ?_
  refine W_if rfl (fun c1 => ?_) (fun c1 => ?_)
  ·
    have lk : 60 < xs.length := by simp at c1; omega
    refine wp_seq ?_
    refine W_region ?_
    refine L (D_v (R_move rfl) ?_)
    refine L (D_v (R_sliceHi (j := 60) Try.underlying46 Try.sizeOf53 rfl rfl (h.ext hE).1 (by (try simp only [List.length_take, List.length_drop, List.length_append, List.length_cons, List.length_nil, List.length_replicate, List.length_set, Nm.b_len, be2_len]); omega)) ?_)
    refine L (D_v (R_assign rfl) ?_)
    refine S_nil ?_
    refine T_tn ?_
    refine wp_ret ?_
    refine T_tr ?_
    refine ret1 (v := _) rfl rfl ⟨?_, hE⟩
    unfold cut60; rw [if_pos lk]; rfl
  ·
    have lk : ¬ 60 < xs.length := by simp at c1; omega
    refine wp_skip ?_
    refine T_tn ?_
    refine wp_seq ?_
    refine W_region ?_
    refine L (D_v (R_move rfl) ?_)
    refine L (D_v (R_assign rfl) ?_)
    refine S_nil ?_
    refine T_tn ?_
    refine wp_ret ?_
    refine ret1 (v := _) rfl rfl ⟨?_, hE⟩
    unfold cut60; rw [if_neg lk]; rfl
set_option maxRecDepth 4000 in
set_option maxHeartbeats 1000000 in
theorem c72 (v u : Value) (xs ys : List Ev) (w : World) (hn : xs.length ≤ 1000000) (h : Ls cE w.heap.size w v xs) (hy : Ls cE w.heap.size w u ys) : Calls Try.prog 72 [v, u].toArray w (Ret w (.bool (pairsS xs ys))) := by
  refine enter Try.func72 Try.ntmps72 rfl rfl ?_
  have hE := Ext.refl w
  refine wp_seq ?_
  refine W_region ?_
  refine L (D_v (R_assign rfl) ?_)
  refine S_nil ?_
  refine T_tn ?_
  refine wp_seq ?_
  refine wp_seq ?_
  refine W_region ?_
  refine L (D_v (R_move rfl) ?_)
  refine L (D_v (R_len Try.underlying42 rfl (h.ext hE).1) ?_)
  refine L (D_v (R_move rfl) ?_)
  refine L (D_v (R_len Try.underlying42 rfl (hy.ext hE).1) ?_)
  refine L (D_v (R_neqI rfl rfl) ?_)
  refine S_nil ?_
  refine T_tn ?_
  refine W_if rfl (fun c1 => ?_) (fun c1 => ?_)
  ·
    have hne : xs.length ≠ ys.length := by simp at c1; omega
    refine wp_seq ?_
    refine W_region ?_
    refine L (D_v (R_assign rfl) ?_)
    refine S_nil ?_
    refine T_tn ?_
    refine wp_ret ?_
    refine T_tr ?_
    refine ret1 (v := .bool _) rfl rfl ⟨?_, hE⟩
    rw [pairsS_len hne]
  ·
    have hln : xs.length = ys.length := by simp at c1; omega
    refine wp_skip ?_
    refine T_tn ?_
    refine wp_seq ?_
    refine wp_seq ?_
    refine W_region ?_
    refine L (D_v (R_assign rfl) ?_)
    refine S_nil ?_
    refine T_tn ?_
    refine wp_block ?_
    refine W_loop (fun mz g W => ∃ (i : Nat), mz = xs.length - i ∧ g 0 = v ∧ g 1 = u ∧ g 5 = i64 ((i : Nat) : Int) ∧ Ext w W ∧ i ≤ xs.length ∧ (xs.take i).map Ev.p = (ys.take i).map Ev.p) ⟨0, rfl, rfl, rfl, rfl, hE, (Nat.zero_le _), (by simp)⟩ ?_
    rintro mz f4 w4l ⟨i, hm, q0, q1, q5, hE, hi, hall⟩
    refine wp_seq ?_
    refine wp_seq ?_
    refine W_region ?_
    refine L (D_v (R_move q5) ?_)
    refine L (D_v (R_move q0) ?_)
    refine L (D_v (R_len Try.underlying42 rfl (h.ext hE).1) ?_)
    refine L (D_v (R_lssI rfl rfl) ?_)
    refine S_nil ?_
    refine T_tn ?_
    refine W_if rfl (fun c2 => ?_) (fun c2 => ?_)
    ·
      have lk : i < xs.length := by simp at c2; omega
      have lk2 : i < ys.length := by omega
      have ka := ((h.ext hE)).get (i := i) (getD_some (d := Ev.zero) lk)
      have kb := ((hy.ext hE)).get (i := i) (getD_some (d := Ev.zero) lk2)
      refine wp_skip ?_
      refine T_tn ?_
      refine wp_seq ?_
      refine wp_block ?_
      refine wp_seq ?_
      refine W_draw mixed (by kernel_rfl) ?_
      refine Q_v (fun w hw => R_move q0) ?_
      refine Q_v (fun w hw => R_move q5) ?_
      refine Q_v (fun w hw => R_elAddr (i := i) Try.underlying42 Try.sizeOf55 rfl rfl (h.ext (hE.trans hw)).1 (by (try simp only [List.length_take, List.length_drop, List.length_append, List.length_cons, List.length_nil, List.length_replicate, List.length_set, Nm.b_len, be2_len]); omega)) ?_
      refine Q_v (fun w hw => R_fieldEl (k := i * 46) Try.runUnderlying55 rfl Try.sizeOf53 (h.ext (hE.trans hw)).1 (lel_ltz (C := cE) (s := 46) rfl (by decide) (getD_some (d := Ev.zero) (by (try simp only [List.length_take, List.length_drop, List.length_append, List.length_cons, List.length_nil, List.length_replicate, List.length_set, Nm.b_len, be2_len]); omega))) rfl) ?_
      refine Q_v (fun w hw => R_ldP (C := cE) (i := i) (k := 0) (y := ((xs).getD (i) Ev.zero)) (c := ((((xs).getD (i) Ev.zero)).a).l) Try.isAgg53 Try.sizeOf53 rfl (h.ext (hE.trans hw)) (getD_some (d := Ev.zero) (by (try simp only [List.length_take, List.length_drop, List.length_append, List.length_cons, List.length_nil, List.length_replicate, List.length_set, Nm.b_len, be2_len]); omega)) (by decide) (by decide) rfl) ?_
      refine Q_v (fun w hw => R_move q1) ?_
      refine Q_v (fun w hw => R_move q5) ?_
      refine Q_v (fun w hw => R_elAddr (i := i) Try.underlying42 Try.sizeOf55 rfl rfl (hy.ext (hE.trans hw)).1 (by (try simp only [List.length_take, List.length_drop, List.length_append, List.length_cons, List.length_nil, List.length_replicate, List.length_set, Nm.b_len, be2_len]); omega)) ?_
      refine Q_v (fun w hw => R_fieldEl (k := i * 46) Try.runUnderlying55 rfl Try.sizeOf53 (hy.ext (hE.trans hw)).1 (lel_ltz (C := cE) (s := 46) rfl (by decide) (getD_some (d := Ev.zero) (by (try simp only [List.length_take, List.length_drop, List.length_append, List.length_cons, List.length_nil, List.length_replicate, List.length_set, Nm.b_len, be2_len]); omega))) rfl) ?_
      refine Q_v (fun w hw => R_ldP (C := cE) (i := i) (k := 0) (y := ((ys).getD (i) Ev.zero)) (c := ((((ys).getD (i) Ev.zero)).a).l) Try.isAgg53 Try.sizeOf53 rfl (hy.ext (hE.trans hw)) (getD_some (d := Ev.zero) (by (try simp only [List.length_take, List.length_drop, List.length_append, List.length_cons, List.length_nil, List.length_replicate, List.length_set, Nm.b_len, be2_len]); omega)) (by decide) (by decide) rfl) ?_
      refine Q_call (fun w hw => R_callF Try.call77 rfl rfl) (fun w hw => c77 ((((xs).getD (i) Ev.zero)).a) ((((ys).getD (i) Ev.zero)).a) _ (((ka.fb (Fb.ext hw)).1).up (Nat.le_trans (Nat.le_refl _) (hE.trans hw).size)) (((kb.fb (Fb.ext hw)).1).up (Nat.le_trans (Nat.le_refl _) (hE.trans hw).size))) ?_
      refine Q_v (fun w hw => R_not rfl) ?_
      refine Q_v (fun w hw => R_move rfl) ?_
      refine Q_g1 rfl rfl (fun hb w hw => R_move q0) ?_
      refine Q_g1 rfl rfl (fun hb w hw => R_move q5) ?_
      refine Q_g1 rfl rfl (fun hb w hw => R_elAddr (i := i) Try.underlying42 Try.sizeOf55 (cgE hb) (cgE hb) (h.ext (hE.trans hw)).1 (by first | ((try simp only [List.length_take, List.length_drop, List.length_append, List.length_cons, List.length_nil]); omega) | (simp at hb; omega))) ?_
      refine Q_g1 rfl rfl (fun hb w hw => R_fieldEl (k := i * 46) Try.runUnderlying55 rfl Try.sizeOf53 (h.ext (hE.trans hw)).1 (lel_ltz (C := cE) (s := 46) rfl (by decide) (getD_some (d := Ev.zero) (by first | ((try simp only [List.length_take, List.length_drop, List.length_append, List.length_cons, List.length_nil]); omega) | (simp at hb; omega)))) (cgE hb)) ?_
      refine Q_g1 rfl rfl (fun hb w hw => R_ldP (C := cE) (i := i) (k := 23) (y := ((xs).getD (i) Ev.zero)) (c := ((((xs).getD (i) Ev.zero)).b).l) Try.isAgg53 Try.sizeOf53 (cgE hb) (h.ext (hE.trans hw)) (getD_some (d := Ev.zero) (by first | ((try simp only [List.length_take, List.length_drop, List.length_append, List.length_cons, List.length_nil]); omega) | (simp at hb; omega))) (by decide) (by decide) rfl) ?_
      refine Q_g1 rfl rfl (fun hb w hw => R_move q1) ?_
      refine Q_g1 rfl rfl (fun hb w hw => R_move q5) ?_
      refine Q_g1 rfl rfl (fun hb w hw => R_elAddr (i := i) Try.underlying42 Try.sizeOf55 (cgE hb) (cgE hb) (hy.ext (hE.trans hw)).1 (by first | ((try simp only [List.length_take, List.length_drop, List.length_append, List.length_cons, List.length_nil]); omega) | (simp at hb; omega))) ?_
      refine Q_g1 rfl rfl (fun hb w hw => R_fieldEl (k := i * 46) Try.runUnderlying55 rfl Try.sizeOf53 (hy.ext (hE.trans hw)).1 (lel_ltz (C := cE) (s := 46) rfl (by decide) (getD_some (d := Ev.zero) (by first | ((try simp only [List.length_take, List.length_drop, List.length_append, List.length_cons, List.length_nil]); omega) | (simp at hb; omega)))) (cgE hb)) ?_
      refine Q_g1 rfl rfl (fun hb w hw => R_ldP (C := cE) (i := i) (k := 23) (y := ((ys).getD (i) Ev.zero)) (c := ((((ys).getD (i) Ev.zero)).b).l) Try.isAgg53 Try.sizeOf53 (cgE hb) (hy.ext (hE.trans hw)) (getD_some (d := Ev.zero) (by first | ((try simp only [List.length_take, List.length_drop, List.length_append, List.length_cons, List.length_nil]); omega) | (simp at hb; omega))) (by decide) (by decide) rfl) ?_
      refine Q_gc1 rfl rfl (fun hb w hw => R_callF Try.call77 (mapv2 (cgE hb) (cgE hb)) rfl) (fun hb w hw => c77 ((((xs).getD (i) Ev.zero)).b) ((((ys).getD (i) Ev.zero)).b) _ (((ka.fb (Fb.ext hw)).2).up (Nat.le_trans (Nat.le_refl _) (hE.trans hw).size)) (((kb.fb (Fb.ext hw)).2).up (Nat.le_trans (Nat.le_refl _) (hE.trans hw).size))) ?_
      refine Q_g1 rfl rfl (fun hb w hw => R_not (cgE hb)) ?_
      refine Q_v (fun w hw => R_pickO rfl rfl rfl) ?_
      refine Q_nil (fun w6_99 e6_99 => ?_)
      replace hE := hE.trans e6_99
      replace ka := ka.fb (Fb.ext e6_99)
      replace kb := kb.fb (Fb.ext e6_99)
      refine T_tn ?_
      refine W_if rfl (fun c3 => ?_) (fun c3 => ?_)
      ·
        have hsm : (sameS (xs.getD i Ev.zero).a.p (ys.getD i Ev.zero).a.p && sameS (xs.getD i Ev.zero).b.p (ys.getD i Ev.zero).b.p) = false := not_or2 c3
        refine wp_seq ?_
        refine W_region ?_
        refine L (D_v (R_assign rfl) ?_)
        refine S_nil ?_
        refine T_tn ?_
        refine wp_ret ?_
        refine T_br ?_
        refine T_tr ?_
        refine T_tr ?_
        refine T_br ?_
        refine T_tr ?_
        refine ret1 (v := .bool _) rfl rfl ⟨?_, hE⟩
        rw [pairsS_at lk lk2 hsm]
      ·
        have hsm : (sameS (xs.getD i Ev.zero).a.p (ys.getD i Ev.zero).a.p && sameS (xs.getD i Ev.zero).b.p (ys.getD i Ev.zero).b.p) = true := not_or2 c3
        refine wp_skip ?_
        refine T_bn ?_
        refine T_tn ?_
        refine W_region ?_
        refine L (D_v (R_move q5) ?_)
        refine L (D_v (R_addN (m := i) (j := 1) rfl rfl (by (try simp only [List.length_take, List.length_drop, List.length_append, List.length_cons, List.length_nil, List.length_replicate, List.length_set, Nm.b_len, be2_len]); omega)) ?_)
        refine L (D_v (R_assign rfl) ?_)
        refine S_nil ?_
        refine T_tn ?_
        refine ⟨_, _, ?_, rfl, i + 1, rfl, q0, q1, rfl, hE, ?_, ?_⟩
        all_goals first | omega | exact pairsS_next hall lk lk2 hsm
    ·
      obtain rfl : i = xs.length := by have h9 := of_decide_eq_false c2; omega
      refine wp_exit ?_
      refine T_te ?_
      refine T_te ?_
      refine T_be ?_
      refine T_tn ?_
      refine wp_seq ?_
      refine W_region ?_
      refine L (D_v (R_assign rfl) ?_)
      refine S_nil ?_
      refine T_tn ?_
      refine wp_ret ?_
      refine ret1 (v := .bool _) rfl rfl ⟨?_, hE⟩
      rw [pairsS_all hln hall]
set_option maxRecDepth 4000 in
set_option maxHeartbeats 1000000 in
theorem c74  (w : World) : Calls Try.prog 74 [].toArray w (Ret w (.bool true)) := by
  refine enter Try.func74 Try.ntmps74 rfl rfl ?_
  have hE := Ext.refl w
  refine wp_seq ?_
  refine W_region ?_
  refine L (D_v (R_assign rfl) ?_)
  refine S_nil ?_
  refine T_tn ?_
  refine wp_seq ?_
  refine W_region ?_
  refine L (D_buildB (vs := [(0, u8 (1))]) (b := [1]) Try.underlying31 Try.sizeOf5 Try.zeroValue5 rfl (fillB1 _) rfl rfl rfl (fun v2_0 w2_0 o2_0 e2_0 => ?_))
  replace o2_0 := o2_0.lo hE.size
  replace hE := hE.trans e2_0
  refine L (D_callE (R_callF Try.call81 rfl rfl) (c81 v2_0 ([1]) _ o2_0.bs) (fun v2_1 w2_1 e2_1 p2_1 => ?_))
  obtain ⟨x2_1, rfl, p2_1a, k2_1⟩ := p2_1
  replace hE := hE.trans e2_1
  replace o2_0 := o2_0.ext e2_1
  refine L (D_v (R_move rfl) ?_)
  refine L (D_v (R_extract rfl rfl) ?_)
  refine L (D_v (R_extract rfl rfl) ?_)
  refine L (D_alloc (c := (Ev.zero).l) Try.zeroValue55 rfl (fun aB2_5 w2_5 e2_5 gB2_5 hB2_5 => ?_))
  have lB2_5 := Nat.le_trans hE.size gB2_5
  replace hE := hE.trans e2_5
  replace o2_0 := o2_0.ext e2_5
  replace k2_1 := k2_1.fb (Fb.ext e2_5)
  have xo2_0 := own_neB o2_0 hB2_5 rfl
  have h0 := hB2_5
  refine L (D_storeA Try.sizeOf55 hB2_5 rfl rfl rfl rfl rfl (l' := (x2_1).l) rfl (fun w2_6 k2_6 hB2_5 => ?_))
  have f2_6 := Fb.kp k2_6 (Nat.le_trans (Nat.le_refl _) lB2_5) (Blk.notB h0 rfl)
  replace hE := hE.kp k2_6 lB2_5
  replace o2_0 := o2_0.kp k2_6 xo2_0
  replace k2_1 := k2_1.fb (Fb.kp k2_6 (Nat.zero_le _) (Blk.notB h0 rfl))
  refine L (D_v (R_assign rfl) ?_)
  refine S_nil ?_
  refine T_tn ?_
  refine wp_seq ?_
  refine W_region ?_
  refine L (D_v (R_move rfl) ?_)
  refine L (D_on rfl rfl (D_call (R_callF Try.call71 rfl rfl) (c71 (Value.slice none 0 0) ([]) w.heap.size (Value.slice none 0 0) ([]) _ ((Ls.nil cN w.heap.size _).lev fun _ _ _ => trivial) (Nat.le_trans (Nat.le_refl _) hE.size) (by (try simp only [List.length_take, List.length_drop, List.length_append, List.length_cons, List.length_nil, List.length_replicate, List.length_set, Nm.b_len, be2_len]); omega) (Ls.nil cS w.heap.size _)) (fun w3_1 e3_1 => ?_)))
  replace hE := hE.trans e3_1
  replace k2_1 := k2_1.fb (Fb.ext e3_1)
  refine L (D_on rfl rfl (D_v (R_eqlI rfl rfl) ?_))
  refine L (D_v (R_pick rfl rfl rfl) ?_)
  refine L (D_v (R_move rfl) ?_)
  refine L (D_g1 rfl rfl (fun hb => R_move rfl) ?_)
  refine L (D_g1 rfl rfl (fun hb => R_eqlI (cgE hb) rfl) ?_)
  refine L (D_v (R_pickA rfl rfl rfl) ?_)
  refine L (D_v (R_assign rfl) ?_)
  refine S_nil ?_
  refine T_tn ?_
  refine wp_ret ?_
  refine ret1 (v := .bool _) rfl rfl ⟨congrArg (fun b => Ending.returned (Value.bool b)) ?_, hE⟩
  rw [gk_nil, decE_short (show ([1] : List UInt8).length < 786 from by decide)]; rfl
set_option maxRecDepth 4000 in
set_option maxHeartbeats 4000000 in
theorem c23s (x : Ev) (v : Value) (b : List UInt8) (w : World) (hs0 : EvIn w x.v x) (hs : x.okf w.heap.size w) (h : Bs w v b) : Calls Try.prog 23 [x.v, v].toArray w (Ret w (.bool true)) := by
  refine enter Try.func23 Try.ntmps23 rfl rfl ?_
  have hE := Ext.refl w
  refine wp_seq ?_
  refine W_region ?_
  refine L (D_box (c := (x).l) (rfl) (fun aB1_0 w1_0 e1_0 gB1_0 hB1_0 => ?_))
  have lB1_0 := Nat.le_trans hE.size gB1_0
  replace hE := hE.trans e1_0
  refine L (D_v (R_assign rfl) ?_)
  refine S_nil ?_
  refine T_tn ?_
  refine wp_seq ?_
  refine W_region ?_
  refine L (D_v (R_loadA (c := (x).l) Try.isAgg55 Try.sizeOf55 hB1_0 rfl rfl rfl) ?_)
  refine L (D_callE (R_callF Try.call79 rfl rfl) (c79 (x) _ ⟨(hs.fb (Fb.ext hE)).1.ok, (hs.fb (Fb.ext hE)).2.ok⟩) (fun v2_1 w2_1 e2_1 p2_1 => ?_))
  obtain ⟨q2_1, rfl, o2_1⟩ := p2_1
  replace o2_1 := o2_1.lo hE.size
  replace hE := hE.trans e2_1
  replace hB1_0 := hB1_0.ext e2_1
  refine L (D_v (R_move rfl) ?_)
  refine L (D_v (R_extract rfl rfl) ?_)
  refine L (D_v (R_extract rfl rfl) ?_)
  refine L (D_v (R_assign rfl) ?_)
  refine L (D_v (R_assign rfl) ?_)
  refine S_nil ?_
  refine T_tn ?_
  refine wp_seq ?_
  refine W_region ?_
  refine L (D_v (R_loadA (c := (x).l) Try.isAgg55 Try.sizeOf55 hB1_0 rfl rfl rfl) ?_)
  refine L (D_callE (R_callF Try.call80 rfl rfl) (c80 (x) _ ⟨(hs.fb (Fb.ext hE)).1.ok, (hs.fb (Fb.ext hE)).2.ok⟩) (fun v3_1 w3_1 e3_1 p3_1 => ?_))
  obtain ⟨q3_1, rfl, o3_1⟩ := p3_1
  have zq2_1_q3_1 := own_apart o2_1 o3_1
  have zq3_1_q2_1 := fun k hk hk2 => zq2_1_q3_1 k hk2 hk
  replace o3_1 := o3_1.lo hE.size
  replace hE := hE.trans e3_1
  replace hB1_0 := hB1_0.ext e3_1
  replace o2_1 := o2_1.ext e3_1
  refine L (D_v (R_move rfl) ?_)
  refine L (D_v (R_extract rfl rfl) ?_)
  refine L (D_v (R_extract rfl rfl) ?_)
  refine L (D_v (R_assign rfl) ?_)
  refine L (D_v (R_assign rfl) ?_)
  refine S_nil ?_
  refine T_tn ?_
  refine wp_seq ?_
  refine W_region ?_
  refine L (D_v (R_move rfl) ?_)
  refine L (D_callE (R_callF Try.call81 rfl rfl) (c81 v (b) _ (h.ext hE)) (fun v4_1 w4_1 e4_1 p4_1 => ?_))
  obtain ⟨x4_1, rfl, p4_1a, k4_1⟩ := p4_1
  replace hE := hE.trans e4_1
  replace hB1_0 := hB1_0.ext e4_1
  replace o2_1 := o2_1.ext e4_1
  replace o3_1 := o3_1.ext e4_1
  refine L (D_v (R_move rfl) ?_)
  refine L (D_v (R_extract rfl rfl) ?_)
  refine L (D_v (R_extract rfl rfl) ?_)
  refine L (D_alloc (c := (Ev.zero).l) Try.zeroValue55 rfl (fun aB4_5 w4_5 e4_5 gB4_5 hB4_5 => ?_))
  have lB4_5 := Nat.le_trans hE.size gB4_5
  have nB1_0B4_5 := hB1_0.ne gB4_5
  replace hE := hE.trans e4_5
  replace hB1_0 := hB1_0.ext e4_5
  replace o2_1 := o2_1.ext e4_5
  replace o3_1 := o3_1.ext e4_5
  replace k4_1 := k4_1.fb (Fb.ext e4_5)
  have xo2_1 := own_neB o2_1 hB4_5 rfl
  have xo3_1 := own_neB o3_1 hB4_5 rfl
  have h0 := hB4_5
  refine L (D_storeA Try.sizeOf55 hB4_5 rfl rfl rfl rfl rfl (l' := (x4_1).l) rfl (fun w4_6 k4_6 hB4_5 => ?_))
  have f4_6 := Fb.kp k4_6 (Nat.le_trans (Nat.le_refl _) lB4_5) (Blk.notB h0 rfl)
  replace hE := hE.kp k4_6 lB4_5
  replace hB1_0 := hB1_0.kp k4_6 nB1_0B4_5
  replace o2_1 := o2_1.kp k4_6 xo2_1
  replace o3_1 := o3_1.kp k4_6 xo3_1
  replace k4_1 := k4_1.fb (Fb.kp k4_6 (Nat.zero_le _) (Blk.notB h0 rfl))
  refine L (D_v (R_assign rfl) ?_)
  refine S_nil ?_
  refine T_tn ?_
  refine wp_seq ?_
  refine W_region ?_
  refine L (D_v (R_move rfl) ?_)
  refine L (D_callE (R_callF Try.call49 rfl rfl) (c49 v (b) _ (h.ext hE)) (fun v5_1 w5_1 e5_1 p5_1 => ?_))
  obtain ⟨x5_1, rfl, p5_1a, k5_1⟩ := p5_1
  replace hE := hE.trans e5_1
  replace hB1_0 := hB1_0.ext e5_1
  replace hB4_5 := hB4_5.ext e5_1
  replace o2_1 := o2_1.ext e5_1
  replace o3_1 := o3_1.ext e5_1
  replace k4_1 := k4_1.fb (Fb.ext e5_1)
  refine L (D_v (R_move rfl) ?_)
  refine L (D_v (R_extract rfl rfl) ?_)
  refine L (D_v (R_extract rfl rfl) ?_)
  refine L (D_alloc (c := (Ev.zero).l) Try.zeroValue55 rfl (fun aB5_5 w5_5 e5_5 gB5_5 hB5_5 => ?_))
  have lB5_5 := Nat.le_trans hE.size gB5_5
  have nB1_0B5_5 := hB1_0.ne gB5_5
  have nB4_5B5_5 := hB4_5.ne gB5_5
  replace hE := hE.trans e5_5
  replace hB1_0 := hB1_0.ext e5_5
  replace hB4_5 := hB4_5.ext e5_5
  replace o2_1 := o2_1.ext e5_5
  replace o3_1 := o3_1.ext e5_5
  replace k4_1 := k4_1.fb (Fb.ext e5_5)
  replace k5_1 := k5_1.fb (Fb.ext e5_5)
  have xo2_1 := own_neB o2_1 hB5_5 rfl
  have xo3_1 := own_neB o3_1 hB5_5 rfl
  have h0 := hB5_5
  refine L (D_storeA Try.sizeOf55 hB5_5 rfl rfl rfl rfl rfl (l' := (x5_1).l) rfl (fun w5_6 k5_6 hB5_5 => ?_))
  have f5_6 := Fb.kp k5_6 (Nat.le_trans (Nat.le_refl _) lB5_5) (Blk.notB h0 rfl)
  replace hE := hE.kp k5_6 lB5_5
  replace hB1_0 := hB1_0.kp k5_6 nB1_0B5_5
  replace hB4_5 := hB4_5.kp k5_6 nB4_5B5_5
  replace o2_1 := o2_1.kp k5_6 xo2_1
  replace o3_1 := o3_1.kp k5_6 xo3_1
  replace k4_1 := k4_1.fb (Fb.kp k5_6 (Nat.zero_le _) (Blk.notB h0 rfl))
  replace k5_1 := k5_1.fb (Fb.kp k5_6 (Nat.zero_le _) (Blk.notB h0 rfl))
  refine L (D_v (R_assign rfl) ?_)
  refine S_nil ?_
  refine T_tn ?_
  refine wp_seq ?_
  refine wp_seq ?_
  refine W_region ?_
  refine L (D_v (R_move rfl) ?_)
  refine L (D_v (R_str (b := (encE (x))) rfl o2_1.bs) ?_)
  refine L (D_v (R_move rfl) ?_)
  refine L (D_v (R_str (b := (encE (x))) rfl o3_1.bs) ?_)
  refine L (D_v (R_neqStr (a := (encE (x))) (b := (encE (x))) rfl rfl) ?_)
  refine L (D_v (R_move rfl) ?_)
  refine L (D_g1 rfl rfl (fun hb => R_move rfl) ?_)
  refine L (D_g1 rfl rfl (fun hb => R_move rfl) ?_)
  refine L (D_g1 rfl rfl (fun hb => R_neqB Try.underlying4 (cgE hb) (cgE hb)) ?_)
  refine L (D_v (R_pickO rfl rfl rfl) ?_)
  refine L (D_v (R_move rfl) ?_)
  refine L (D_g1 rfl rfl (fun hb => R_move rfl) ?_)
  refine L (D_g1 rfl rfl (fun hb => R_move rfl) ?_)
  refine L (D_g1 rfl rfl (fun hb => R_neqI (cgE hb) (cgE hb)) ?_)
  refine L (D_v (R_pickO rfl rfl rfl) ?_)
  refine L (D_v (R_move rfl) ?_)
  refine L (D_g1 rfl rfl (fun hb => R_fieldAddr Try.runUnderlying55 rfl Try.sizeOf53 rfl) ?_)
  refine L (D_g1 rfl rfl (fun hb => R_loadA (c := ((x4_1).a).l) Try.isAgg53 Try.sizeOf53 hB4_5 (cgE hb) rfl rfl) ?_)
  refine L (D_g1 rfl rfl (fun hb => R_fieldAddr Try.runUnderlying55 rfl Try.sizeOf53 rfl) ?_)
  refine L (D_g1 rfl rfl (fun hb => R_loadA (c := ((x5_1).a).l) Try.isAgg53 Try.sizeOf53 hB5_5 (cgE hb) rfl rfl) ?_)
  refine L (D_gc1 rfl rfl (fun hb => R_callF Try.call77 (mapv2 (cgE hb) (cgE hb)) rfl) (fun hb => c77 ((x4_1).a) ((x5_1).a) _ (((k4_1.up (Nat.zero_le _)).1).up (Nat.le_trans (Nat.le_refl _) hE.size)) (((k5_1.up (Nat.zero_le _)).1).up (Nat.le_trans (Nat.le_refl _) hE.size))) (fun w6_20 e6_20 => ?_))
  replace hE := hE.trans e6_20
  replace hB1_0 := hB1_0.ext e6_20
  replace hB4_5 := hB4_5.ext e6_20
  replace hB5_5 := hB5_5.ext e6_20
  replace o2_1 := o2_1.ext e6_20
  replace o3_1 := o3_1.ext e6_20
  replace k4_1 := k4_1.fb (Fb.ext e6_20)
  replace k5_1 := k5_1.fb (Fb.ext e6_20)
  refine L (D_g1 rfl rfl (fun hb => R_not (cgE hb)) ?_)
  refine L (D_v (R_pickO rfl rfl rfl) ?_)
  refine L (D_v (R_move rfl) ?_)
  refine L (D_g1 rfl rfl (fun hb => R_fieldAddr Try.runUnderlying55 rfl Try.sizeOf53 rfl) ?_)
  refine L (D_g1 rfl rfl (fun hb => R_loadA (c := ((x4_1).b).l) Try.isAgg53 Try.sizeOf53 hB4_5 (cgE hb) rfl rfl) ?_)
  refine L (D_g1 rfl rfl (fun hb => R_fieldAddr Try.runUnderlying55 rfl Try.sizeOf53 rfl) ?_)
  refine L (D_g1 rfl rfl (fun hb => R_loadA (c := ((x5_1).b).l) Try.isAgg53 Try.sizeOf53 hB5_5 (cgE hb) rfl rfl) ?_)
  refine L (D_gc1 rfl rfl (fun hb => R_callF Try.call77 (mapv2 (cgE hb) (cgE hb)) rfl) (fun hb => c77 ((x4_1).b) ((x5_1).b) _ (((k4_1.up (Nat.zero_le _)).2).up (Nat.le_trans (Nat.le_refl _) hE.size)) (((k5_1.up (Nat.zero_le _)).2).up (Nat.le_trans (Nat.le_refl _) hE.size))) (fun w6_28 e6_28 => ?_))
  replace hE := hE.trans e6_28
  replace hB1_0 := hB1_0.ext e6_28
  replace hB4_5 := hB4_5.ext e6_28
  replace hB5_5 := hB5_5.ext e6_28
  replace o2_1 := o2_1.ext e6_28
  replace o3_1 := o3_1.ext e6_28
  replace k4_1 := k4_1.fb (Fb.ext e6_28)
  replace k5_1 := k5_1.fb (Fb.ext e6_28)
  refine L (D_g1 rfl rfl (fun hb => R_not (cgE hb)) ?_)
  refine L (D_v (R_pickO rfl rfl rfl) ?_)
  refine S_nil ?_
  refine T_tn ?_
  refine W_if rfl (fun c1 => ?_) (fun c1 => ?_)
  ·
    exfalso
    have hab := p4_1a.trans p5_1a.symm
    have ha2 : (x4_1).a.p = (x5_1).a.p := congrArg Prod.fst hab
    have hb2 : (x4_1).b.p = (x5_1).b.p := congrArg Prod.snd hab
    rw [ha2, hb2] at c1; simp [sameS_refl] at c1
  ·
    refine wp_skip ?_
    refine T_tn ?_
    refine wp_seq ?_
    refine wp_seq ?_
    refine W_region ?_
    refine L (D_v (R_move rfl) ?_)
    refine S_nil ?_
    refine T_tn ?_
    refine W_if rfl (fun c2 => ?_) (fun c2 => ?_)
    ·
      have hok : okE x = true := c2
      have hde := decE_enc hs0.2.2.1 hs0.2.2.2 hok
      refine wp_seq ?_
      refine W_region ?_
      refine L (D_v (R_move rfl) ?_)
      refine L (D_callE (R_callF Try.call81 rfl rfl) (c81 q2_1 ((encE (x))) _ o2_1.bs) (fun v8_1 w8_1 e8_1 p8_1 => ?_))
      obtain ⟨x8_1, rfl, p8_1a, k8_1⟩ := p8_1
      replace hE := hE.trans e8_1
      replace hB1_0 := hB1_0.ext e8_1
      replace o2_1 := o2_1.ext e8_1
      replace k4_1 := k4_1.fb (Fb.ext e8_1)
      replace k5_1 := k5_1.fb (Fb.ext e8_1)
      refine L (D_v (R_move rfl) ?_)
      refine L (D_v (R_extract rfl rfl) ?_)
      refine L (D_v (R_extract rfl rfl) ?_)
      refine L (D_alloc (c := (Ev.zero).l) Try.zeroValue55 rfl (fun aB8_5 w8_5 e8_5 gB8_5 hB8_5 => ?_))
      have lB8_5 := Nat.le_trans hE.size gB8_5
      have nB1_0B8_5 := hB1_0.ne gB8_5
      replace hE := hE.trans e8_5
      replace hB1_0 := hB1_0.ext e8_5
      replace o2_1 := o2_1.ext e8_5
      replace k4_1 := k4_1.fb (Fb.ext e8_5)
      replace k5_1 := k5_1.fb (Fb.ext e8_5)
      replace k8_1 := k8_1.fb (Fb.ext e8_5)
      have xo2_1 := own_neB o2_1 hB8_5 rfl
      have h0 := hB8_5
      refine L (D_storeA Try.sizeOf55 hB8_5 rfl rfl rfl rfl rfl (l' := (x8_1).l) rfl (fun w8_6 k8_6 hB8_5 => ?_))
      have f8_6 := Fb.kp k8_6 (Nat.le_trans (Nat.le_refl _) lB8_5) (Blk.notB h0 rfl)
      replace hE := hE.kp k8_6 lB8_5
      replace hB1_0 := hB1_0.kp k8_6 nB1_0B8_5
      replace o2_1 := o2_1.kp k8_6 xo2_1
      replace k4_1 := k4_1.fb (Fb.kp k8_6 (Nat.zero_le _) (Blk.notB h0 rfl))
      replace k5_1 := k5_1.fb (Fb.kp k8_6 (Nat.zero_le _) (Blk.notB h0 rfl))
      replace k8_1 := k8_1.fb (Fb.kp k8_6 (Nat.zero_le _) (Blk.notB h0 rfl))
      refine L (D_v (R_assign rfl) ?_)
      refine S_nil ?_
      refine T_tn ?_
      refine wp_seq ?_
      refine W_region ?_
      refine L (D_v (R_move rfl) ?_)
      refine L (D_v (R_eqlI rfl rfl) ?_)
      refine L (D_v (R_move rfl) ?_)
      refine L (D_g1 rfl rfl (fun hb => R_fieldAddr Try.runUnderlying55 rfl Try.sizeOf53 rfl) ?_)
      refine L (D_g1 rfl rfl (fun hb => R_loadA (c := ((x8_1).a).l) Try.isAgg53 Try.sizeOf53 hB8_5 (cgE hb) rfl rfl) ?_)
      refine L (D_g1 rfl rfl (fun hb => R_fieldAddr Try.runUnderlying55 rfl Try.sizeOf53 rfl) ?_)
      refine L (D_g1 rfl rfl (fun hb => R_loadA (c := ((x).a).l) Try.isAgg53 Try.sizeOf53 hB1_0 (cgE hb) rfl rfl) ?_)
      refine L (D_gc1 rfl rfl (fun hb => R_callF Try.call77 (mapv2 (cgE hb) (cgE hb)) rfl) (fun hb => c77 ((x8_1).a) ((x).a) _ (((k8_1.up (Nat.zero_le _)).1).up (Nat.le_trans (Nat.le_refl _) hE.size)) (((hs.fb (Fb.ext hE)).1).up (Nat.le_trans (Nat.le_refl _) hE.size))) (fun w9_7 e9_7 => ?_))
      replace hE := hE.trans e9_7
      replace hB1_0 := hB1_0.ext e9_7
      replace hB8_5 := hB8_5.ext e9_7
      replace k4_1 := k4_1.fb (Fb.ext e9_7)
      replace k5_1 := k5_1.fb (Fb.ext e9_7)
      replace k8_1 := k8_1.fb (Fb.ext e9_7)
      refine L (D_v (R_pickA rfl rfl rfl) ?_)
      refine L (D_v (R_move rfl) ?_)
      refine L (D_g1 rfl rfl (fun hb => R_fieldAddr Try.runUnderlying55 rfl Try.sizeOf53 rfl) ?_)
      refine L (D_g1 rfl rfl (fun hb => R_loadA (c := ((x8_1).b).l) Try.isAgg53 Try.sizeOf53 hB8_5 (cgE hb) rfl rfl) ?_)
      refine L (D_g1 rfl rfl (fun hb => R_fieldAddr Try.runUnderlying55 rfl Try.sizeOf53 rfl) ?_)
      refine L (D_g1 rfl rfl (fun hb => R_loadA (c := ((x).b).l) Try.isAgg53 Try.sizeOf53 hB1_0 (cgE hb) rfl rfl) ?_)
      refine L (D_gc1 rfl rfl (fun hb => R_callF Try.call77 (mapv2 (cgE hb) (cgE hb)) rfl) (fun hb => c77 ((x8_1).b) ((x).b) _ (((k8_1.up (Nat.zero_le _)).2).up (Nat.le_trans (Nat.le_refl _) hE.size)) (((hs.fb (Fb.ext hE)).2).up (Nat.le_trans (Nat.le_refl _) hE.size))) (fun w9_14 e9_14 => ?_))
      replace hE := hE.trans e9_14
      replace hB1_0 := hB1_0.ext e9_14
      replace hB8_5 := hB8_5.ext e9_14
      replace k4_1 := k4_1.fb (Fb.ext e9_14)
      replace k5_1 := k5_1.fb (Fb.ext e9_14)
      replace k8_1 := k8_1.fb (Fb.ext e9_14)
      refine L (D_v (R_pickA rfl rfl rfl) ?_)
      refine L (D_v (R_move rfl) ?_)
      refine L (D_gc1 rfl rfl (fun hb => R_callF Try.call74 rfl rfl) (fun hb => c74 _) (fun w9_17 e9_17 => ?_))
      replace hE := hE.trans e9_17
      replace hB1_0 := hB1_0.ext e9_17
      replace hB8_5 := hB8_5.ext e9_17
      replace k4_1 := k4_1.fb (Fb.ext e9_17)
      replace k5_1 := k5_1.fb (Fb.ext e9_17)
      replace k8_1 := k8_1.fb (Fb.ext e9_17)
      refine L (D_v (R_pickA rfl rfl rfl) ?_)
      refine L (D_v (R_assign rfl) ?_)
      refine S_nil ?_
      refine T_tn ?_
      refine wp_ret ?_
      refine T_tr ?_
      refine ret1 (v := .bool _) rfl rfl ⟨congrArg (fun b => Ending.returned (Value.bool b)) ?_, hE⟩
      have hz := p8_1a
      rw [hde] at hz
      have hz1 : (x8_1).a.p = x.a.p := congrArg Prod.fst hz
      have hz2 : (x8_1).b.p = x.b.p := congrArg Prod.snd hz
      rw [hz1, hz2, hde]; simp [sameS_refl]
    ·
      refine wp_skip ?_
      refine T_tn ?_
      refine wp_seq ?_
      refine W_region ?_
      refine L (D_call (R_callF Try.call74 rfl rfl) (c74 _) (fun w8_0 e8_0 => ?_))
      replace hE := hE.trans e8_0
      replace k4_1 := k4_1.fb (Fb.ext e8_0)
      replace k5_1 := k5_1.fb (Fb.ext e8_0)
      refine L (D_v (R_assign rfl) ?_)
      refine S_nil ?_
      refine T_tn ?_
      refine wp_ret ?_
      refine ret1 (v := .bool _) rfl rfl ⟨congrArg (fun b => Ending.returned (Value.bool b)) ?_, hE⟩
      rfl
theorem c23 (v0 : Value) (x : Ev) (v : Value) (b : List UInt8) (w : World) (hs0 : EvIn w v0 x) (h : Bs w v b) : Calls Try.prog 23 [v0, v].toArray w (Ret w (.bool true)) := by
  have h1 := hs0
  obtain ⟨rfl, hs, _⟩ := hs0
  exact c23s x v b w h1 hs h
end Go.Proofs.Yteeopgpgbdhmhaa
namespace Go.Proofs.Yteeopgpgbdhmhaa
open Go.RowKit
set_option linter.unusedVariables false
set_option linter.unusedSimpArgs false
attribute [local irreducible] wpList wpO H wpQuiet wpStill Code.wp Exit.then Exit.inBlock bodyPost Code.rounds Calls valid sameKey conflict lessV hless num between
set_option maxRecDepth 4000 in
set_option maxHeartbeats 2000000 in
theorem c90 (vk : Value) (keys : List Nm) (x : Ev) (p : Int) (w : World) (hk : Ls cN w.heap.size w vk keys) (hs : x.okf w.heap.size w) : Calls Try.prog 90 [vk, x.v, i64 p].toArray w (Ret w (i64 (flt keys x.p p))) := by
  refine enter Try.func90 Try.ntmps90 rfl rfl ?_
  have hE := Ext.refl w
  refine wp_seq ?_
  refine W_region ?_
  refine L (D_box (c := (x).l) (rfl) (fun aB1_0 w1_0 e1_0 gB1_0 hB1_0 => ?_))
  have lB1_0 := Nat.le_trans hE.size gB1_0
  replace hE := hE.trans e1_0
  refine L (D_v (R_assign rfl) ?_)
  refine S_nil ?_
  refine T_tn ?_
  refine wp_seq ?_
  refine W_region ?_
  refine L (D_v (R_fieldAddr Try.runUnderlying55 rfl Try.sizeOf53 rfl) ?_)
  refine L (D_v (R_fieldAddr Try.runUnderlying53 rfl Try.sizeOf26 rfl) ?_)
  refine L (D_v (R_fieldAddr Try.runUnderlying26 rfl Try.sizeOf3 rfl) ?_)
  refine L (D_v (R_load Try.isAgg3 hB1_0 rfl rfl) ?_)
  refine L (D_v (R_assign rfl) ?_)
  refine S_nil ?_
  refine T_tn ?_
  refine wp_seq ?_
  refine wp_block ?_
  refine wp_seq ?_
  refine W_region ?_
  refine L (D_v (R_fieldAddr Try.runUnderlying55 rfl Try.sizeOf53 rfl) ?_)
  refine L (D_v (R_fieldAddr Try.runUnderlying53 rfl Try.sizeOf26 rfl) ?_)
  refine L (D_v (R_loadA (c := ((x).a.vote).l) Try.isAgg26 Try.sizeOf26 hB1_0 rfl rfl rfl) ?_)
  refine L (D_v (R_fieldAddr Try.runUnderlying55 rfl Try.sizeOf53 rfl) ?_)
  refine L (D_v (R_fieldAddr Try.runUnderlying53 rfl Try.sizeOf26 rfl) ?_)
  refine L (D_v (R_loadA (c := ((x).b.vote).l) Try.isAgg26 Try.sizeOf26 hB1_0 rfl rfl rfl) ?_)
  refine L (D_call (R_callF Try.call31 rfl rfl) (c31 ((x).a.vote) ((x).b.vote) _ ) (fun w3_6 e3_6 => ?_))
  replace hE := hE.trans e3_6
  replace hB1_0 := hB1_0.ext e3_6
  refine L (D_v (R_not rfl) ?_)
  refine L (D_v (R_move rfl) ?_)
  refine L (D_g1 rfl rfl (fun hb => R_fieldAddr Try.runUnderlying55 rfl Try.sizeOf53 rfl) ?_)
  refine L (D_g1 rfl rfl (fun hb => R_fieldAddr Try.runUnderlying53 rfl Try.sizeOf26 (cgE hb)) ?_)
  refine L (D_g1 rfl rfl (fun hb => R_loadA (c := ((x).a.vote).l) Try.isAgg26 Try.sizeOf26 hB1_0 (cgE hb) rfl rfl) ?_)
  refine L (D_g1 rfl rfl (fun hb => R_fieldAddr Try.runUnderlying55 rfl Try.sizeOf53 rfl) ?_)
  refine L (D_g1 rfl rfl (fun hb => R_fieldAddr Try.runUnderlying53 rfl Try.sizeOf26 (cgE hb)) ?_)
  refine L (D_g1 rfl rfl (fun hb => R_loadA (c := ((x).b.vote).l) Try.isAgg26 Try.sizeOf26 hB1_0 (cgE hb) rfl rfl) ?_)
  refine L (D_gc1 rfl rfl (fun hb => R_callF Try.call33 (mapv2 (cgE hb) (cgE hb)) rfl) (fun hb => c33 ((x).a.vote) ((x).b.vote) _ ) (fun w3_15 e3_15 => ?_))
  replace hE := hE.trans e3_15
  replace hB1_0 := hB1_0.ext e3_15
  refine L (D_g1 rfl rfl (fun hb => R_not (cgE hb)) ?_)
  refine L (D_v (R_pickO rfl rfl rfl) ?_)
  refine L (D_v (R_assign rfl) ?_)
  refine S_nil ?_
  refine T_tn ?_
  refine W_if rfl (fun c1 => ?_) (fun c1 => ?_)
  ·
    have h9 : (!(conflict (x).p.1.1 (x).p.2.1) || !(lessV (x).p.1.1 (x).p.2.1)) = true := c1
    refine wp_seq ?_
    refine W_region ?_
    refine L (D_v (R_assign rfl) ?_)
    refine S_nil ?_
    refine T_tn ?_
    refine wp_ret ?_
    refine T_br ?_
    refine T_tr ?_
    refine ret1 (v := .int _ _) rfl rfl ⟨?_, hE⟩
    rw [flt_9 h9]; rfl
  ·
    have h9 : (!(conflict (x).p.1.1 (x).p.2.1) || !(lessV (x).p.1.1 (x).p.2.1)) = false := c1
    have h0 : 0 ≤ (x).a.vote.signer := (valid_signer (conflict_parts (or_nots h9).1).1).1
    refine wp_seq ?_
    refine W_region ?_
    refine L (D_v (R_move rfl) ?_)
    refine L (D_v (R_move rfl) ?_)
    refine L (D_v (R_leqI rfl rfl) ?_)
    refine L (D_v (R_assign rfl) ?_)
    refine S_nil ?_
    refine T_tn ?_
    refine W_if rfl (fun c2 => ?_) (fun c2 => ?_)
    ·
      have h10 :  (x).p.1.1.signer ≤ p := of_decide_eq_true c2
      refine wp_seq ?_
      refine W_region ?_
      refine L (D_v (R_assign rfl) ?_)
      refine S_nil ?_
      refine T_tn ?_
      refine wp_ret ?_
      refine T_br ?_
      refine T_tr ?_
      refine ret1 (v := .int _ _) rfl rfl ⟨?_, hE⟩
      rw [flt_10 h9 h10]; rfl
    ·
      have h10 : ¬ (x).p.1.1.signer ≤ p := of_decide_eq_false c2
      refine wp_seq ?_
      refine W_draw mixed (by kernel_rfl) ?_
      refine Q_v (fun w hw => R_move rfl) ?_
      refine Q_v (fun w hw => R_move rfl) ?_
      refine Q_v (fun w hw => R_len Try.underlying45 rfl (hk.ext (hE.trans hw)).1) ?_
      refine Q_v (fun w hw => R_geqI rfl rfl) ?_
      refine Q_v (fun w hw => R_move rfl) ?_
      refine Q_g1 rfl rfl (fun hb w hw => R_move rfl) ?_
      refine Q_g1 rfl rfl (fun hb w hw => R_move rfl) ?_
      refine Q_g1 rfl rfl (fun hb w hw => R_elI (i := ((x).a).vote.signer) Try.underlying45 Try.sizeOf24 (cgE hb) (cgE hb) (hk.ext (hE.trans hw)).1 h0 (by first | (have h1 := of_decide_eq_false hb; omega) | (simp at hb; omega) | omega)) ?_
      refine Q_g1 rfl rfl (fun hb w hw => R_ldL (C := cN) (i := (((x).a).vote.signer).toNat) (y := ((keys).getD ((((x).a).vote.signer).toNat) Nm.zero)) Try.isAgg24 Try.sizeOf24 (cgE hb) (hk.ext (hE.trans hw)) (getD_some (d := Nm.zero) (by first | (have h1 := of_decide_eq_false hb; omega) | (simp at hb; omega) | omega))) ?_
      refine Q_g1 rfl rfl (fun hb w hw => R_fieldAddr Try.runUnderlying55 rfl Try.sizeOf53 rfl) ?_
      refine Q_g1 rfl rfl (fun hb w hw => R_loadA (c := ((x).a).l) Try.isAgg53 Try.sizeOf53 (hB1_0.ext hw) (cgE hb) rfl rfl) ?_
      refine Q_gc1 rfl rfl (fun hb w hw => R_callF Try.call75 (mapv2 (cgE hb) (cgE hb)) rfl) (fun hb w hw => c75 (((keys).getD ((((x).a).vote.signer).toNat) Nm.zero)) ((x).a) _ (((hs.fb (Fb.ext (hE.trans hw))).1).up (Nat.le_trans (Nat.le_refl _) (hE.trans hw).size))) ?_
      refine Q_g1 rfl rfl (fun hb w hw => R_not (cgE hb)) ?_
      refine Q_v (fun w hw => R_pickO rfl rfl rfl) ?_
      refine Q_v (fun w hw => R_move rfl) ?_
      refine Q_g1 rfl rfl (fun hb w hw => R_move rfl) ?_
      refine Q_g1 rfl rfl (fun hb w hw => R_move rfl) ?_
      refine Q_g1 rfl rfl (fun hb w hw => R_elI (i := ((x).a).vote.signer) Try.underlying45 Try.sizeOf24 (cgE hb) (cgE hb) (hk.ext (hE.trans hw)).1 h0 (by first | (have h1 := of_decide_eq_false hb; omega) | (simp at hb; omega) | omega)) ?_
      refine Q_g1 rfl rfl (fun hb w hw => R_ldL (C := cN) (i := (((x).a).vote.signer).toNat) (y := ((keys).getD ((((x).a).vote.signer).toNat) Nm.zero)) Try.isAgg24 Try.sizeOf24 (cgE hb) (hk.ext (hE.trans hw)) (getD_some (d := Nm.zero) (by first | (have h1 := of_decide_eq_false hb; omega) | (simp at hb; omega) | omega))) ?_
      refine Q_g1 rfl rfl (fun hb w hw => R_fieldAddr Try.runUnderlying55 rfl Try.sizeOf53 rfl) ?_
      refine Q_g1 rfl rfl (fun hb w hw => R_loadA (c := ((x).b).l) Try.isAgg53 Try.sizeOf53 (hB1_0.ext hw) (cgE hb) rfl rfl) ?_
      refine Q_gc1 rfl rfl (fun hb w hw => R_callF Try.call75 (mapv2 (cgE hb) (cgE hb)) rfl) (fun hb w hw => c75 (((keys).getD ((((x).a).vote.signer).toNat) Nm.zero)) ((x).b) _ (((hs.fb (Fb.ext (hE.trans hw))).2).up (Nat.le_trans (Nat.le_refl _) (hE.trans hw).size))) ?_
      refine Q_g1 rfl rfl (fun hb w hw => R_not (cgE hb)) ?_
      refine Q_v (fun w hw => R_pickO rfl rfl rfl) ?_
      refine Q_v (fun w hw => R_assign rfl) ?_
      refine Q_nil (fun w5_99 e5_99 => ?_)
      replace hE := hE.trans e5_99
      replace hB1_0 := hB1_0.ext e5_99
      refine T_tn ?_
      refine W_if rfl (fun c3 => ?_) (fun c3 => ?_)
      ·
        refine wp_seq ?_
        refine W_region ?_
        refine L (D_v (R_assign rfl) ?_)
        refine S_nil ?_
        refine T_tn ?_
        refine wp_ret ?_
        refine T_br ?_
        refine T_tr ?_
        refine ret1 (v := .int _ _) rfl rfl ⟨?_, hE⟩
        rw [flt_8 h9 h10 (by exact c3)]; rfl
      ·
        refine wp_skip ?_
        refine T_bn ?_
        refine T_tn ?_
        refine wp_seq ?_
        refine W_region ?_
        refine L (D_v (R_assign rfl) ?_)
        refine S_nil ?_
        refine T_tn ?_
        refine wp_ret ?_
        refine ret1 (v := .int _ _) rfl rfl ⟨?_, hE⟩
        rw [flt_0 h9 h10 (by exact c3)]; rfl
set_option maxRecDepth 4000 in
set_option maxHeartbeats 8000000 in
theorem c45 (vk : Value) (keys : List Nm) (v : Value) (b : List UInt8) (w : World) (hk : Ls cN w.heap.size w vk keys) (h : Bs w v b) : Calls Try.prog 45 [vk, v].toArray w (Ret w (.tuple #[i64 (chk keys b).1, i64 (chk keys b).2])) := by
  refine enter Try.func45 Try.ntmps45 rfl rfl ?_
  have hE := Ext.refl w
  have hbb := h.le
  have hb0 := (b.getD 0 0).toNat_lt
  refine wp_seq ?_
  refine W_region ?_
  refine L (D_v (R_assign rfl) ?_)
  refine L (D_v (R_assign rfl) ?_)
  refine S_nil ?_
  refine T_tn ?_
  refine W_scope 0 rfl ?_
  refine wp_seq ?_
  refine W_region ?_
  refine L (D_v (R_assign rfl) ?_)
  refine S_nil ?_
  refine T_tn ?_
  refine wp_seq ?_
  refine W_region ?_
  refine L (D_v (R_assign rfl) ?_)
  refine S_nil ?_
  refine T_tn ?_
  refine wp_seq ?_
  refine W_region ?_
  refine L (D_v (R_assign rfl) ?_)
  refine L (D_v (R_assign rfl) ?_)
  refine S_nil ?_
  refine T_tn ?_
  refine wp_seq ?_
  refine wp_seq ?_
  refine W_region ?_
  refine L (D_v (R_move rfl) ?_)
  refine L (D_v (R_len Try.underlying31 rfl (h.ext hE)) ?_)
  refine L (D_v (R_eqlI rfl rfl) ?_)
  refine S_nil ?_
  refine T_tn ?_
  refine W_if rfl (fun c1 => ?_) (fun c1 => ?_)
  ·
    have h0 : b.length = 0 := by simpa using c1
    refine wp_goto ?_
    refine T_tg ?_
    refine T_sg ?_
    refine wp_seq ?_
    refine wp_skip ?_
    refine T_tn ?_
    refine wp_seq ?_
    refine W_region ?_
    refine L (D_v (R_move rfl) ?_)
    refine L (D_v (R_assign rfl) ?_)
    refine L (D_v (R_assign rfl) ?_)
    refine S_nil ?_
    refine T_tn ?_
    refine wp_ret ?_
    refine T_sr ?_
    refine ret2 (v := i64 _) (v2 := i64 _) rfl rfl rfl ⟨?_, hE⟩
    first | (rw [chk_0 h0]; done) | (rw [chk_0 h0]; rfl) | (rw [chk_0 h0]; rw [take0]; rfl) | (rw [chk_0 h0]; rw [take0])
  ·
    have h0 : b.length ≠ 0 := by simpa using c1
    refine wp_skip ?_
    refine T_tn ?_
    refine wp_seq ?_
    refine W_region ?_
    refine L (D_v (R_move rfl) ?_)
    refine L (D_v (R_sliceLo (i := 1) Try.underlying31 Try.sizeOf5 rfl rfl (h.ext hE) (by (try simp only [List.length_take, List.length_drop, List.length_append, List.length_cons, List.length_nil, List.length_replicate, List.length_set, Nm.b_len, be2_len]); omega)) ?_)
    refine L (D_v (R_assign rfl) ?_)
    refine S_nil ?_
    refine T_tn ?_
    refine wp_seq ?_
    refine wp_seq ?_
    refine W_region ?_
    refine L (D_v (R_move rfl) ?_)
    refine L (D_v (R_elAddr (i := 0) Try.underlying31 Try.sizeOf5 rfl rfl (h.ext hE) (by (try simp only [List.length_take, List.length_drop, List.length_append, List.length_cons, List.length_nil, List.length_replicate, List.length_set, Nm.b_len, be2_len]); omega)) ?_)
    refine L (D_v (R_loadEl (u := u8 (((b).getD 0 0))) Try.isAgg5 rfl (h.ext hE) (bl_get (by (try simp only [List.length_take, List.length_drop, List.length_append, List.length_cons, List.length_nil, List.length_replicate, List.length_set, Nm.b_len, be2_len]); omega))) ?_)
    refine L (D_v (R_convU (b := ((b).getD 0 0)) Try.runUnderlying3 (by decide) rfl) ?_)
    refine L (D_v (R_assign rfl) ?_)
    refine S_nil ?_
    refine T_tn ?_
    refine wp_block ?_
    refine wp_seq ?_
    refine W_region ?_
    refine L (D_v (R_move rfl) ?_)
    refine L (D_v (R_eqlI rfl rfl) ?_)
    refine L (D_v (R_move rfl) ?_)
    refine L (D_g1 rfl rfl (fun hb => R_move rfl) ?_)
    refine L (D_g1 rfl rfl (fun hb => R_gtrI (cgE hb) rfl) ?_)
    refine L (D_v (R_pickO rfl rfl rfl) ?_)
    refine L (D_v (R_assign rfl) ?_)
    refine S_nil ?_
    refine T_tn ?_
    refine W_if rfl (fun c2 => ?_) (fun c2 => ?_)
    ·
      have h1 : ((b.getD 0 0).toNat = 0 ∨ 10 < (b.getD 0 0).toNat) := by have e := c2; simp only [Bool.or_eq_true, beq_iff_eq, decide_eq_true_eq] at e; omega
      refine wp_seq ?_
      refine W_region ?_
      refine L (D_v (R_assign rfl) ?_)
      refine S_nil ?_
      refine T_tn ?_
      refine wp_goto ?_
      refine T_bg ?_
      refine T_tg ?_
      refine T_sg ?_
      refine wp_seq ?_
      refine wp_skip ?_
      refine T_tn ?_
      refine wp_seq ?_
      refine W_region ?_
      refine L (D_v (R_move rfl) ?_)
      refine L (D_v (R_assign rfl) ?_)
      refine L (D_v (R_assign rfl) ?_)
      refine S_nil ?_
      refine T_tn ?_
      refine wp_ret ?_
      refine T_sr ?_
      refine ret2 (v := i64 _) (v2 := i64 _) rfl rfl rfl ⟨?_, hE⟩
      first | (rw [chk_4 h0 h1]; done) | (rw [chk_4 h0 h1]; rfl) | (rw [chk_4 h0 h1]; rw [take0]; rfl) | (rw [chk_4 h0 h1]; rw [take0])
    ·
      have h1 : ¬ ((b.getD 0 0).toNat = 0 ∨ 10 < (b.getD 0 0).toNat) := by have e := c2; simp only [Bool.or_eq_false_iff, beq_eq_false_iff_ne, ne_eq, decide_eq_false_iff_not] at e; omega
      refine wp_seq ?_
      refine W_region ?_
      refine L (D_v (R_move rfl) ?_)
      refine L (D_v (R_len Try.underlying31 rfl ((h.ext hE).cut (by (try simp only [List.length_take, List.length_drop, List.length_append, List.length_cons, List.length_nil, List.length_replicate, List.length_set, Nm.b_len, be2_len]); omega) (by (try simp only [List.length_take, List.length_drop, List.length_append, List.length_cons, List.length_nil, List.length_replicate, List.length_set, Nm.b_len, be2_len]); omega))) ?_)
      refine L (D_v (R_move rfl) ?_)
      refine L (D_v (R_mulN (m := (((b).getD 0 0)).toNat) (j := 786) rfl rfl (by (try simp only [List.length_take, List.length_drop, List.length_append, List.length_cons, List.length_nil, List.length_replicate, List.length_set, Nm.b_len, be2_len]); omega)) ?_)
      refine L (D_v (R_lssI rfl rfl) ?_)
      refine L (D_v (R_assign rfl) ?_)
      refine S_nil ?_
      refine T_tn ?_
      refine W_if rfl (fun c3 => ?_) (fun c3 => ?_)
      ·
        have h2 := of_decide_eq_true c3
        simp only [List.length_take, List.length_drop] at h2
        refine wp_goto ?_
        refine T_bg ?_
        refine T_tg ?_
        refine T_sg ?_
        refine wp_seq ?_
        refine wp_skip ?_
        refine T_tn ?_
        refine wp_seq ?_
        refine W_region ?_
        refine L (D_v (R_move rfl) ?_)
        refine L (D_v (R_assign rfl) ?_)
        refine L (D_v (R_assign rfl) ?_)
        refine S_nil ?_
        refine T_tn ?_
        refine wp_ret ?_
        refine T_sr ?_
        refine ret2 (v := i64 _) (v2 := i64 _) rfl rfl rfl ⟨?_, hE⟩
        first | (rw [chk_2 h0 h1 (by omega)]; done) | (rw [chk_2 h0 h1 (by omega)]; rfl) | (rw [chk_2 h0 h1 (by omega)]; rw [take0]; rfl) | (rw [chk_2 h0 h1 (by omega)]; rw [take0])
      ·
        have h2 := of_decide_eq_false c3
        simp only [List.length_take, List.length_drop] at h2
        refine wp_seq ?_
        refine W_region ?_
        refine L (D_v (R_move rfl) ?_)
        refine L (D_v (R_len Try.underlying31 rfl ((h.ext hE).cut (by (try simp only [List.length_take, List.length_drop, List.length_append, List.length_cons, List.length_nil, List.length_replicate, List.length_set, Nm.b_len, be2_len]); omega) (by (try simp only [List.length_take, List.length_drop, List.length_append, List.length_cons, List.length_nil, List.length_replicate, List.length_set, Nm.b_len, be2_len]); omega))) ?_)
        refine L (D_v (R_move rfl) ?_)
        refine L (D_v (R_mulN (m := (((b).getD 0 0)).toNat) (j := 786) rfl rfl (by (try simp only [List.length_take, List.length_drop, List.length_append, List.length_cons, List.length_nil, List.length_replicate, List.length_set, Nm.b_len, be2_len]); omega)) ?_)
        refine L (D_v (R_gtrI rfl rfl) ?_)
        refine L (D_v (R_assign rfl) ?_)
        refine S_nil ?_
        refine T_tn ?_
        refine W_if rfl (fun c4 => ?_) (fun c4 => ?_)
        ·
          have h3 := of_decide_eq_true c4
          simp only [List.length_take, List.length_drop] at h3
          refine wp_seq ?_
          refine W_region ?_
          refine L (D_v (R_assign rfl) ?_)
          refine S_nil ?_
          refine T_tn ?_
          refine wp_goto ?_
          refine T_bg ?_
          refine T_tg ?_
          refine T_sg ?_
          refine wp_seq ?_
          refine wp_skip ?_
          refine T_tn ?_
          refine wp_seq ?_
          refine W_region ?_
          refine L (D_v (R_move rfl) ?_)
          refine L (D_v (R_assign rfl) ?_)
          refine L (D_v (R_assign rfl) ?_)
          refine S_nil ?_
          refine T_tn ?_
          refine wp_ret ?_
          refine T_sr ?_
          refine ret2 (v := i64 _) (v2 := i64 _) rfl rfl rfl ⟨?_, hE⟩
          first | (rw [chk_3 h0 h1 (by omega)]; done) | (rw [chk_3 h0 h1 (by omega)]; rfl) | (rw [chk_3 h0 h1 (by omega)]; rw [take0]; rfl) | (rw [chk_3 h0 h1 (by omega)]; rw [take0])
        ·
          have h3 := of_decide_eq_false c4
          simp only [List.length_take, List.length_drop] at h3
          have hS := chk_S (keys := keys) h0 h1 (by omega)
          have hbl : b.length = 1 + 786 * (b.getD 0 0).toNat := by omega
          refine wp_skip ?_
          refine T_bn ?_
          refine T_tn ?_
          refine wp_seq ?_
          refine wp_block ?_
          refine W_loop (fun mz g W => ∃ (rv : Value) (k : Nat) (r : List UInt8) (p : Int) (gu : Int), mz = k + 0 ∧ g 0 = vk ∧ g 6 = i64 gu ∧ g 7 = rv ∧ g 8 = i64 p ∧ Ext w W ∧ Bs w rv r ∧ r.length = 786 * k ∧ chkS keys k r p gu = chkS keys (b.getD 0 0).toNat (b.drop 1) (-1) 0) ⟨_, (b.getD 0 0).toNat, (((b).drop (1)).take ((b).length - 1)), (-1), 0, rfl, rfl, rfl, rfl, rfl, hE, (h.cut (i := 1) (j := b.length) (by omega) (Nat.le_refl _)), (by simp only [List.length_take, List.length_drop]; omega), (by rw [dropn])⟩ ?_
          rintro mz f11 w11l ⟨rv, k, r, p, gu, hm, q0, q6, q7, q8, hE, hr, hrl, hch⟩
          refine wp_seq ?_
          refine wp_seq ?_
          refine W_region ?_
          refine L (D_v (R_move q7) ?_)
          refine L (D_v (R_len Try.underlying31 rfl (hr.ext hE)) ?_)
          refine L (D_v (R_gtrI rfl rfl) ?_)
          refine S_nil ?_
          refine T_tn ?_
          refine W_if rfl (fun c5 => ?_) (fun c5 => ?_)
          ·
            have hk1 : 0 < k := by have e := of_decide_eq_true c5; omega
            obtain ⟨k, rfl⟩ : ∃ k2, k = k2 + 1 := ⟨k - 1, by omega⟩
            refine wp_skip ?_
            refine T_tn ?_
            refine wp_block ?_
            refine wp_seq ?_
            refine W_region ?_
            refine L (D_v (R_move q7) ?_)
            refine L (D_v (R_sliceHi (j := 786) Try.underlying31 Try.sizeOf5 rfl rfl (hr.ext hE) (by (try simp only [List.length_take, List.length_drop, List.length_append, List.length_cons, List.length_nil, List.length_replicate, List.length_set, Nm.b_len, be2_len]); omega)) ?_)
            refine L (D_callE (R_callF Try.call81 rfl rfl) (c81 (cutV rv 1 (0) (786)) ((((r).drop (0)).take (786 - 0))) _ ((hr.ext hE).cut (by (try simp only [List.length_take, List.length_drop, List.length_append, List.length_cons, List.length_nil, List.length_replicate, List.length_set, Nm.b_len, be2_len]); omega) (by (try simp only [List.length_take, List.length_drop, List.length_append, List.length_cons, List.length_nil, List.length_replicate, List.length_set, Nm.b_len, be2_len]); omega))) (fun v13_2 w13_2 e13_2 p13_2 => ?_))
            obtain ⟨x13_2, rfl, p13_2a, k13_2⟩ := p13_2
            replace hE := hE.trans e13_2
            refine L (D_v (R_move rfl) ?_)
            refine L (D_v (R_extract rfl rfl) ?_)
            refine L (D_v (R_extract rfl rfl) ?_)
            refine L (D_alloc (c := (Ev.zero).l) Try.zeroValue55 rfl (fun aB13_6 w13_6 e13_6 gB13_6 hB13_6 => ?_))
            have lB13_6 := Nat.le_trans hE.size gB13_6
            replace hE := hE.trans e13_6
            replace k13_2 := k13_2.fb (Fb.ext e13_6)
            have h0 := hB13_6
            refine L (D_storeA Try.sizeOf55 hB13_6 rfl rfl rfl rfl rfl (l' := (x13_2).l) rfl (fun w13_7 k13_7 hB13_6 => ?_))
            have f13_7 := Fb.kp k13_7 (Nat.le_trans (Nat.le_refl _) lB13_6) (Blk.notB h0 rfl)
            replace hE := hE.kp k13_7 lB13_6
            replace k13_2 := k13_2.fb (Fb.kp k13_7 (Nat.zero_le _) (Blk.notB h0 rfl))
            refine L (D_v (R_assign rfl) ?_)
            refine S_nil ?_
            refine T_tn ?_
            refine wp_seq ?_
            refine W_region ?_
            refine L (D_v (R_move q7) ?_)
            refine L (D_v (R_sliceLo (i := 786) Try.underlying31 Try.sizeOf5 rfl rfl (hr.ext hE) (by (try simp only [List.length_take, List.length_drop, List.length_append, List.length_cons, List.length_nil, List.length_replicate, List.length_set, Nm.b_len, be2_len]); omega)) ?_)
            refine L (D_v (R_assign rfl) ?_)
            refine S_nil ?_
            refine T_tn ?_
            refine wp_seq ?_
            refine wp_seq ?_
            refine W_region ?_
            refine L (D_v (R_move rfl) ?_)
            refine L (D_v (R_assign rfl) ?_)
            refine S_nil ?_
            refine T_tn ?_
            refine wp_seq ?_
            refine W_region ?_
            refine L (D_v (R_move rfl) ?_)
            refine L (D_v (R_eqlI rfl rfl) ?_)
            refine S_nil ?_
            refine T_tn ?_
            refine W_if rfl (fun c6 => ?_) (fun c6 => ?_)
            ·
              rw [take0] at p13_2a c6
              have he : (decE (r.take 786)).2 = 0 := by simpa using c6
              refine W_region ?_
              refine L (D_v (R_move q0) ?_)
              refine L (D_v (R_loadA (c := (x13_2).l) Try.isAgg55 Try.sizeOf55 hB13_6 rfl rfl rfl) ?_)
              refine L (D_v (R_move q8) ?_)
              refine L (D_call (R_callF Try.call90 rfl rfl) (c90 vk (keys) (x13_2) p _ ((hk.ext hE).lev fun _ _ _ => trivial) ((k13_2.up (Nat.zero_le _)).up (Nat.le_trans (Nat.le_refl _) hE.size))) (fun w17_3 e17_3 => ?_))
              replace hE := hE.trans e17_3
              replace hB13_6 := hB13_6.ext e17_3
              replace k13_2 := k13_2.fb (Fb.ext e17_3)
              refine L (D_v (R_assign rfl) ?_)
              refine S_nil ?_
              refine T_tn ?_
              refine wp_seq ?_
              refine wp_seq ?_
              refine W_region ?_
              refine L (D_v (R_move rfl) ?_)
              refine L (D_v (R_neqI rfl rfl) ?_)
              refine S_nil ?_
              refine T_tn ?_
              refine W_if rfl (fun c7 => ?_) (fun c7 => ?_)
              ·
                have hf : flt keys (decE (r.take 786)).1 p ≠ 0 := by rw [← p13_2a]; simpa using c7
                have hz : (0, flt keys (decE (r.take 786)).1 p) = chk keys b := by rw [hS, ← hch, chkS_flt he hf]
                rw [← p13_2a] at hz
                refine wp_goto ?_
                refine T_tg ?_
                refine T_bg ?_
                refine T_tg ?_
                refine T_bg ?_
                refine T_tg ?_
                refine T_sg ?_
                refine wp_seq ?_
                refine wp_skip ?_
                refine T_tn ?_
                refine wp_seq ?_
                refine W_region ?_
                refine L (D_v (R_move rfl) ?_)
                refine L (D_v (R_assign rfl) ?_)
                refine L (D_v (R_assign rfl) ?_)
                refine S_nil ?_
                refine T_tn ?_
                refine wp_ret ?_
                refine T_sr ?_
                refine ret2 (v := i64 _) (v2 := i64 _) rfl rfl rfl ⟨?_, hE⟩
                first | (rw [hz.symm]; done) | (rw [hz.symm]; rfl) | (rw [hz.symm]; rw [take0]; rfl) | (rw [hz.symm]; rw [take0])
              ·
                have hf : flt keys (decE (r.take 786)).1 p = 0 := by rw [← p13_2a]; simpa using c7
                have hsg := flt_signer hf
                rw [chkS_next he hf, ← p13_2a] at hch
                rw [← p13_2a] at hsg
                refine wp_skip ?_
                refine T_tn ?_
                refine wp_seq ?_
                refine W_region ?_
                refine L (D_v (R_fieldAddr Try.runUnderlying55 rfl Try.sizeOf53 rfl) ?_)
                refine L (D_v (R_fieldAddr Try.runUnderlying53 rfl Try.sizeOf26 rfl) ?_)
                refine L (D_v (R_fieldAddr Try.runUnderlying26 rfl Try.sizeOf3 rfl) ?_)
                refine L (D_v (R_load Try.isAgg3 hB13_6 rfl rfl) ?_)
                refine L (D_v (R_assign rfl) ?_)
                refine S_nil ?_
                refine T_tn ?_
                refine W_region ?_
                refine L (D_v (R_move q6) ?_)
                refine L (D_v (R_move rfl) ?_)
                refine L (D_v (R_bit (s := ((x13_2).a).vote.signer) rfl rfl hsg) ?_)
                refine L (D_v (R_orI rfl rfl) ?_)
                refine L (D_v (R_assign rfl) ?_)
                refine S_nil ?_
                refine T_bn ?_
                refine T_tn ?_
                refine ⟨_, _, ?_, rfl, _, k, (((r).drop (786)).take ((r).length - 786)), _, _, rfl, q0, rfl, rfl, rfl, hE, ?_, ?_, ?_⟩
                all_goals first | omega | exact hr.cut (i := 786) (j := r.length) (by omega) (Nat.le_refl _) | (simp only [List.length_take, List.length_drop]; omega) | (rw [dropn]; exact hch)
            ·
              rw [take0] at p13_2a c6
              have he : (decE (r.take 786)).2 ≠ 0 := by simpa using c6
              have hz : (0, (decE (r.take 786)).2) = chk keys b := by rw [hS, ← hch, chkS_bad he]
              refine wp_skip ?_
              refine T_tn ?_
              refine wp_seq ?_
              refine wp_seq ?_
              refine W_region ?_
              refine L (D_v (R_move rfl) ?_)
              refine L (D_v (R_neqI rfl rfl) ?_)
              refine S_nil ?_
              refine T_tn ?_
              refine W_if rfl (fun c7 => ?_) (fun c7 => ?_)
              ·
                refine wp_goto ?_
                refine T_tg ?_
                refine T_bg ?_
                refine T_tg ?_
                refine T_bg ?_
                refine T_tg ?_
                refine T_sg ?_
                refine wp_seq ?_
                refine wp_skip ?_
                refine T_tn ?_
                refine wp_seq ?_
                refine W_region ?_
                refine L (D_v (R_move rfl) ?_)
                refine L (D_v (R_assign rfl) ?_)
                refine L (D_v (R_assign rfl) ?_)
                refine S_nil ?_
                refine T_tn ?_
                refine wp_ret ?_
                refine T_sr ?_
                refine ret2 (v := i64 _) (v2 := i64 _) rfl rfl rfl ⟨?_, hE⟩
                first | (rw [hz.symm]; done) | (rw [hz.symm]; rfl) | (rw [hz.symm]; rw [take0]; rfl) | (rw [hz.symm]; rw [take0])
              ·
                exfalso; rw [take0] at c7; simp at c7; exact he c7
          ·
            obtain rfl : k = 0 := by have e := of_decide_eq_false c5; omega
            have hz : (gu, (0 : Int)) = chk keys b := by rw [hS, ← hch]; rfl
            refine wp_exit ?_
            refine T_te ?_
            refine T_te ?_
            refine T_be ?_
            refine T_tn ?_
            refine wp_seq ?_
            refine wp_seq ?_
            refine W_region ?_
            refine L (D_v (R_move q6) ?_)
            refine L (D_v (R_assign rfl) ?_)
            refine L (D_v (R_assign rfl) ?_)
            refine S_nil ?_
            refine T_tn ?_
            refine wp_ret ?_
            refine T_tr ?_
            refine T_sr ?_
            refine ret2 (v := i64 _) (v2 := i64 _) rfl rfl rfl ⟨?_, hE⟩
            first | (rw [hz.symm]; done) | (rw [hz.symm]; rfl) | (rw [hz.symm]; rw [take0]; rfl) | (rw [hz.symm]; rw [take0])
end Go.Proofs.Yteeopgpgbdhmhaa
namespace Go.Proofs.Yteeopgpgbdhmhaa
open Go.RowKit
set_option linter.unusedVariables false
theorem len0 {n : Nat} (h : (((n : Nat) : Int) == 0) = true) : n = 0 := by have := eq_of_beq h; omega
theorem len1 {n : Nat} (h : (((n : Nat) : Int) == 0) = false) : 0 < n := by
  rcases Nat.eq_zero_or_pos n with h8 | h8
  · subst h8; cases h
  · exact h8
theorem wf_of {X : List Sg} (hw : ∀ x ∈ X, x.vote.wf) {p : Pv} (h : p ∈ X.map Sg.p) : p.1.wf := by
  obtain ⟨x, hx, rfl⟩ := List.mem_map.1 h
  exact hw x hx
theorem acc_evs {keys : List Nm} {X : List Sg} {es : List Ev} (h : es.map Ev.p = findP (evs keys X)) (hw : ∀ x ∈ X, x.vote.wf) (h0 : 0 < es.length) :
    (build es).2 = true ∧ (build es).1.length = 1 + 786 * es.length ∧ chk keys (build es).1 = (gk keys X, 0) := by
  have hl := evs_el h
  have ha := accepts (keys := keys) (es := es) (fun e he => by
    have hm : e.p ∈ findP (evs keys X) := by rw [← h]; exact List.mem_map.2 ⟨e, he, rfl⟩
    obtain ⟨k1, k2, k3, _⟩ := evs_sound hm
    exact ⟨k1, wf_of hw k2, wf_of hw k3⟩) (by rw [h]; exact evs_up keys X) hl h0
  refine ⟨ha.1, ha.2.1, ?_⟩
  rw [ha.2.2, h]; rfl
theorem gk_pos {keys : List Nm} {X : List Sg} {es : List Ev} (h : es.map Ev.p = findP (evs keys X)) (h0 : 0 < es.length) : gk keys X ≠ 0 := by
  intro e
  have hm : (es.getD 0 Ev.zero).p ∈ findP (evs keys X) := by rw [← h]; exact List.mem_map.2 ⟨_, List.mem_of_getElem? (getD_some (d := Ev.zero) h0), rfl⟩
  have hs := mask_has (findP (evs keys X)) 0 (es.getD 0 Ev.zero).a.vote.signer (by decide) (fun e he => (find_sound (evs_asc keys X) (evs_inR keys X) he).2.2.2.2)
  have h1 := hs.2 (.inr ⟨_, hm, rfl⟩)
  have h2 : maskP (findP (evs keys X)) 0 = 0 := e
  rw [h2, hasB_zero] at h1; cases h1
end Go.Proofs.Yteeopgpgbdhmhaa
