/- Walks of the functions on bytes: signed.Canonical. No condition. Printed by wip/mkV.py. -/
import Derived.Test.YteeopgpgbdhmhaaWS
import Derived.Test.YteeopgpgbdhmhaaCi
namespace Go.Proofs.Yteeopgpgbdhmhaa
open Go.RowKit
set_option linter.unusedVariables false
set_option linter.unusedSimpArgs false
attribute [local irreducible] wpList wpO H wpQuiet wpStill Code.wp Exit.then Exit.inBlock bodyPost Code.rounds Calls valid sameKey conflict lessV hless num between
-- forkledger/signed.Canonical
set_option maxRecDepth 4000 in
set_option maxHeartbeats 2000000 in
theorem c57 (lo : Nat) (v : Value) (xs : List Sg) (w : World) (hlo : lo ≤ w.heap.size) (hn : xs.length ≤ 1000000) (h : Ls cS lo w v xs) (hsl : ∀ x ∈ xs, x.sig.length ≤ 140737488355328) : Calls Try.prog 57 [v].toArray w (RetE w fun r w' => ∃ ys, Ow cS lo w.heap.size w' r ys ∧ ∃ zs : List Sg, zs.length = xs.length ∧ (∀ p, p ∈ zs.map Sg.p ↔ p ∈ xs.map Sg.p) ∧ srtL zs ∧ ys = ddn zs zs.length) := by
  refine enter Try.func57 Try.ntmps57 rfl rfl ?_
  have hE := Ext.refl w
  refine wp_seq ?_
  refine W_region ?_
  refine L (D_v (R_assign rfl) ?_)
  refine S_nil ?_
  refine T_tn ?_
  refine wp_seq ?_
  refine W_region ?_
  refine L (D_v (R_move rfl) ?_)
  refine L (D_v (R_len Try.underlying46 rfl (h.ext hE).1) ?_)
  refine L (D_makeL (C := cS) (lo := lo) (l := (xs).length) (c := (xs).length) mk53 Try.underlying46 rfl rfl (by (try simp only [List.length_take, List.length_drop, List.length_append, List.length_cons, List.length_nil, List.length_replicate, List.length_set, Nm.b_len, be2_len]); omega) (by (try simp only [List.length_take, List.length_drop, List.length_append, List.length_cons, List.length_nil, List.length_replicate, List.length_set, Nm.b_len, be2_len]); omega) (by (try simp only [List.length_take, List.length_drop, List.length_append, List.length_cons, List.length_nil, List.length_replicate, List.length_set, Nm.b_len, be2_len]); omega) (fun v2_2 w2_2 o2_2 e2_2 => ?_))
  replace o2_2 := o2_2.low hE.size
  replace hE := hE.trans e2_2
  refine L (D_alloc (c := [(Value.slice none 0 0)]) Try.zeroValue46 rfl (fun aB2_3 w2_3 e2_3 gB2_3 hB2_3 => ?_))
  have lB2_3 := Nat.le_trans hE.size gB2_3
  replace hE := hE.trans e2_3
  replace o2_2 := o2_2.ext e2_3
  have xo2_2 := own_neB o2_2.1 hB2_3 rfl
  have h0 := hB2_3
  refine L (D_store1 Try.sizeOf46 hB2_3 rfl rfl (rs_pl o2_2.ls.1) rfl (fun w2_4 k2_4 (hB2_3 : Blk w2_4 aB2_3 [v2_2] 46) => ?_))
  have f2_4 := Fb.kp k2_4 (Nat.le_trans hlo lB2_3) (Blk.notB h0 rfl)
  replace hE := hE.kp k2_4 lB2_3
  replace o2_2 := o2_2.kp k2_4 xo2_2 f2_4
  refine S_nil ?_
  refine T_tn ?_
  refine wp_seq ?_
  refine wp_seq ?_
  refine W_region ?_
  refine L (D_v (R_move rfl) ?_)
  refine L (D_v (R_len Try.underlying46 rfl (h.ext hE).1) ?_)
  refine L (D_v (R_move rfl) ?_)
  refine S_nil ?_
  refine T_tn ?_
  refine wp_block ?_
  refine W_loop (fun mz g W => ∃ (i : Nat) (ys : List Sg), mz = xs.length - i ∧ g 3 = .pointer (some ⟨aB2_3, 0, none⟩) ∧ g 12 = v ∧ g 13 = i64 (((xs).length : Nat) : Int) ∧ g 14 = i64 ((i : Nat) : Int) ∧ Ext w W ∧ Blk W aB2_3 [v2_2] 46 ∧ Ow cS lo w.heap.size W v2_2 ys ∧ i ≤ xs.length ∧ ys.length = xs.length ∧ (ys.take i).map Sg.p = (xs.take i).map Sg.p) ⟨0, _, rfl, rfl, rfl, rfl, rfl, hE, hB2_3, o2_2, (Nat.zero_le _), (by simp), (by simp)⟩ ?_
  rintro mz f4 w4l ⟨i, ys, hm, q3, q12, q13, q14, hE, hB2_3, ov2_2, hi, hyl, hyp⟩
  refine wp_seq ?_
  refine W_region ?_
  refine L (D_v (R_lssI q14 q13) ?_)
  refine S_nil ?_
  refine T_tn ?_
  refine wp_seq ?_
  refine W_if rfl (fun c1 => ?_) (fun c1 => ?_)
  ·
    have lk : i < xs.length := by simp at c1; omega
    have hsi := hsl _ (List.getElem_mem (by exact lk))
    have hgd : xs.getD i Sg.zero = xs[i] := by simp [List.getD, lk]
    rw [← hgd] at hsi
    refine wp_skip ?_
    refine T_tn ?_
    refine wp_seq ?_
    refine wp_block ?_
    refine wp_seq ?_
    refine W_region ?_
    refine L (D_v (R_move q14) ?_)
    refine L (D_v (R_elAddr (i := i) Try.underlying46 Try.sizeOf53 q12 q14 (h.ext hE).1 (by (try simp only [List.length_take, List.length_drop, List.length_append, List.length_cons, List.length_nil, List.length_replicate, List.length_set, Nm.b_len, be2_len]); omega)) ?_)
    have k6_2 := ((h.ext hE)).get (getD_some (d := Sg.zero) (by (try simp only [List.length_take, List.length_drop, List.length_append, List.length_cons, List.length_nil, List.length_replicate, List.length_set, Nm.b_len, be2_len]); omega))
    refine L (D_v (R_ldL (C := cS) (i := i) (y := ((xs).getD (i) Sg.zero)) Try.isAgg53 Try.sizeOf53 rfl (h.ext hE) (getD_some (d := Sg.zero) (by (try simp only [List.length_take, List.length_drop, List.length_append, List.length_cons, List.length_nil, List.length_replicate, List.length_set, Nm.b_len, be2_len]); omega))) ?_)
    refine L (D_alloc (c := (Sg.zero).l) Try.zeroValue53 rfl (fun aB6_3 w6_3 e6_3 gB6_3 hB6_3 => ?_))
    have lB6_3 := Nat.le_trans hE.size gB6_3
    have nB2_3B6_3 := hB2_3.ne gB6_3
    have yv2_2_B6_3 : Value.ownBlock v2_2 ≠ some aB6_3 := fun hk => absurd (own_lt ov2_2.1 hk) (Nat.not_lt.2 gB6_3)
    replace hE := hE.trans e6_3
    replace hB2_3 := hB2_3.ext e6_3
    replace ov2_2 := ov2_2.ext e6_3
    replace k6_2 := k6_2.fb (Fb.ext e6_3)
    refine L (D_v (R_assign rfl) ?_)
    have xov2_2 := yv2_2_B6_3
    have h0 := hB6_3
    refine L (D_storeA Try.sizeOf53 hB6_3 rfl rfl rfl rfl rfl (l' := (((xs).getD (i) Sg.zero)).l) rfl (fun w6_5 k6_5 hB6_3 => ?_))
    have f6_5 := Fb.kp k6_5 (Nat.le_trans hlo lB6_3) (Blk.notB h0 rfl)
    replace hE := hE.kp k6_5 lB6_3
    replace hB2_3 := hB2_3.kp k6_5 nB2_3B6_3
    replace ov2_2 := ov2_2.kp k6_5 xov2_2 f6_5
    replace k6_2 := k6_2.fb f6_5
    refine S_nil ?_
    refine T_tn ?_
    refine W_held (fun W => Ext w W ∧ Blk W aB2_3 [v2_2] 46 ∧ Blk W aB6_3 (((xs).getD (i) Sg.zero)).l 53 ∧ Sg.okf lo W (((xs).getD (i) Sg.zero)) ∧ True) mixed (fun w7_99 e7_99 => ?_)
    replace hE := hE.trans e7_99
    replace hB2_3 := hB2_3.ext e7_99
    replace hB6_3 := hB6_3.ext e7_99
    replace ov2_2 := ov2_2.ext e7_99
    replace k6_2 := k6_2.fb (Fb.ext e7_99)
    refine H_take (i := 0) rfl (by kernel_rfl) (by kernel_rfl) (by kernel_rfl) rfl (pq_block (pq_then (pq_then (pq_block (pq_then pq_body))))) ⟨hE, hB2_3, hB6_3, k6_2, trivial⟩ rfl (fun w hw => R_load Try.isAgg46 hw.2.1 q3 rfl) ?_
    refine H_take (i := 1) rfl (by kernel_rfl) (by kernel_rfl) (by kernel_rfl) rfl (pq_block (pq_then (pq_then (pq_block (pq_then pq_body))))) ⟨hE, hB2_3, hB6_3, k6_2, trivial⟩ rfl (fun w hw => R_move rfl) ?_
    refine H_take (i := 2) rfl (by kernel_rfl) (by kernel_rfl) (by kernel_rfl) rfl (pq_block (pq_then (pq_then (pq_block (pq_then pq_body))))) ⟨hE, hB2_3, hB6_3, k6_2, trivial⟩ rfl (fun w hw => R_fieldAddr Try.runUnderlying53 rfl Try.sizeOf26 rfl) ?_
    refine H_take (i := 3) rfl (by kernel_rfl) (by kernel_rfl) (by kernel_rfl) rfl (pq_block (pq_then (pq_then (pq_block (pq_then pq_body))))) ⟨hE, hB2_3, hB6_3, k6_2, trivial⟩ rfl (fun w hw => R_loadA (c := ((((xs).getD (i) Sg.zero)).vote).l) Try.isAgg26 Try.sizeOf26 hw.2.2.1 rfl rfl rfl) ?_
    refine H_take (i := 4) rfl (by kernel_rfl) (by kernel_rfl) (by kernel_rfl) rfl (pq_block (pq_then (pq_then (pq_block (pq_then pq_body))))) ⟨hE, hB2_3, hB6_3, k6_2, trivial⟩ rfl (fun w hw => R_fieldAddr Try.runUnderlying53 rfl Try.sizeOf31 rfl) ?_
    refine H_take (i := 5) rfl (by kernel_rfl) (by kernel_rfl) (by kernel_rfl) rfl (pq_block (pq_then (pq_then (pq_block (pq_then pq_body))))) ⟨hE, hB2_3, hB6_3, k6_2, trivial⟩ rfl (fun w hw => R_load Try.isAgg31 hw.2.2.1 rfl rfl) ?_
    refine H_op (i := 6) (by kernel_rfl) rfl rfl (D_callE (R_callF Try.call86 rfl rfl) (c86_0 (.slice (((xs).getD (i) Sg.zero)).A (((xs).getD (i) Sg.zero)).n (((xs).getD (i) Sg.zero)).c) ((((xs).getD (i) Sg.zero)).sig) _ _ k6_2.bs (by simp only [List.length_nil, Nat.add_zero, Nat.zero_add]; omega)) (fun v7_6 w7_6 e7_6 p7_6 => ?_))
    have o7_6 := p7_6
    replace o7_6 := o7_6.lo hE.size
    replace hE := hE.trans e7_6
    replace hB2_3 := hB2_3.ext e7_6
    replace hB6_3 := hB6_3.ext e7_6
    replace ov2_2 := ov2_2.ext e7_6
    replace k6_2 := k6_2.fb (Fb.ext e7_6)
    refine ⟨⟨hE, hB2_3, hB6_3, k6_2, trivial⟩, ?_⟩
    have k7_7 : Sg.okf lo w7_6 (mkSg ((((xs).getD (i) Sg.zero)).vote) v7_6 (((xs).getD (i) Sg.zero)).sig) := mkSg_ok _ (Bf.own o7_6)
    refine H_op (i := 7) (by kernel_rfl) rfl rfl (D_v (R_buildS (vs := [(0, .agg ((((xs).getD (i) Sg.zero)).vote).l.toArray), (1, v7_6)]) (c := (mkSg ((((xs).getD (i) Sg.zero)).vote) v7_6 (((xs).getD (i) Sg.zero)).sig).l) Try.runUnderlying53 places53 Try.zeroValue53 (mapp2 rfl rfl) (fill53 _ o7_6.bs)) ⟨⟨hE, hB2_3, hB6_3, k6_2, trivial⟩, ?_⟩)
    refine H_op (i := 8) (by kernel_rfl) rfl rfl (D_v (R_elAddr (i := i) Try.underlying46 Try.sizeOf53 rfl rfl ov2_2.ls.1 (by (try simp only [List.length_take, List.length_drop, List.length_append, List.length_cons, List.length_nil, List.length_replicate, List.length_set, Nm.b_len, be2_len]); omega)) ⟨⟨hE, hB2_3, hB6_3, k6_2, trivial⟩, ?_⟩)
    refine H_op (i := 9) (by kernel_rfl) rfl rfl (D_stL (C := cS) (i := i) (c := (mkSg ((((xs).getD (i) Sg.zero)).vote) v7_6 (((xs).getD (i) Sg.zero)).sig)) (by decide) Try.sizeOf53 rfl rfl ov2_2 hlo (by (try simp only [List.length_take, List.length_drop, List.length_append, List.length_cons, List.length_nil, List.length_replicate, List.length_set, Nm.b_len, be2_len]); omega) k7_7 (fun w7_9 o7_9 g7_9 f7_9 => ?_))
    replace hE := hE.grown g7_9 (fun k hk => own_ge ov2_2.1 hk)
    replace hB2_3 := hB2_3.grown g7_9 (own_neB ov2_2.1 hB2_3 rfl)
    replace hB6_3 := hB6_3.grown g7_9 (yv2_2_B6_3)
    replace o7_6 := o7_6.grown g7_9 (own_ne o7_6 ov2_2.1 rfl)
    replace k6_2 := k6_2.fb f7_9
    replace k7_7 := k7_7.fb f7_9
    refine ⟨⟨hE, hB2_3, hB6_3, k6_2, trivial⟩, ?_⟩
    refine H_done (by kernel_rfl) ?_
    refine T_bn ?_
    refine T_tn ?_
    refine W_region ?_
    refine L (D_v (R_addN (m := i) (j := 1) q14 rfl (by (try simp only [List.length_take, List.length_drop, List.length_append, List.length_cons, List.length_nil, List.length_replicate, List.length_set, Nm.b_len, be2_len]); omega)) ?_)
    refine L (D_v (R_move rfl) ?_)
    refine S_nil ?_
    refine T_tn ?_
    refine ⟨_, _, ?_, rfl, i + 1, _, rfl, q3, q12, q13, rfl, hE, hB2_3, o7_9, ?_, ?_, ?_⟩
    all_goals first | omega | (simp only [List.length_set]; exact hyl) | exact fillp hyp hyl lk rfl
  ·
    obtain rfl : i = xs.length := by have h9 := of_decide_eq_false c1; omega
    refine wp_exit ?_
    refine T_te ?_
    refine T_te ?_
    refine T_be ?_
    refine T_tn ?_
    refine wp_seq ?_
    refine W_region ?_
    refine L (D_v (R_load Try.isAgg46 hB2_3 q3 rfl) ?_)
    refine L (D_v (R_mkI Try.underlying46 rfl) ?_)
    refine L (D_v (R_mkF1 q3) ?_)
    refine L (D_callS (R_callF Try.call95 rfl rfl) (sort46 ov2_2 hlo hB2_3 (by omega)) (fun w6_3 p6_3 => ?_))
    obtain ⟨g6_3, f6_3, zs6_3, o6_3, hzl, hzm, hzs⟩ := p6_3
    replace hE := hE.grown g6_3 (fun k hk => own_ge ov2_2.1 hk)
    replace hB2_3 := hB2_3.grown g6_3 (own_neB ov2_2.1 hB2_3 rfl)
    refine S_nil ?_
    refine T_tn ?_
    refine wp_seq ?_
    refine W_region ?_
    refine L (D_v (R_assign rfl) ?_)
    refine S_nil ?_
    refine T_tn ?_
    refine wp_seq ?_
    refine wp_seq ?_
    refine W_region ?_
    refine L (D_v (R_load Try.isAgg46 hB2_3 q3 rfl) ?_)
    refine L (D_v (R_len Try.underlying46 rfl o6_3.ls.1) ?_)
    refine L (D_v (R_move rfl) ?_)
    refine S_nil ?_
    refine T_tn ?_
    refine wp_block ?_
    refine W_loop (fun mz g W => ∃ (k : Nat) (us : List Sg) (r6 : Value), mz = zs6_3.length - k ∧ g 3 = .pointer (some ⟨aB2_3, 0, none⟩) ∧ g 6 = r6 ∧ g 33 = v2_2 ∧ g 34 = i64 (((zs6_3).length : Nat) : Int) ∧ g 35 = i64 ((k : Nat) : Int) ∧ Ext w W ∧ Blk W aB2_3 [v2_2] 46 ∧ Ow cS lo w.heap.size W v2_2 zs6_3 ∧ Ow cS lo w.heap.size W r6 us ∧ (∀ k, Value.ownBlock v2_2 = some k → Value.ownBlock r6 ≠ some k) ∧ k ≤ zs6_3.length ∧ us = ddn zs6_3 k) ⟨0, [], _, rfl, q3, rfl, rfl, rfl, rfl, hE, hB2_3, o6_3, (Ow.nil cS lo _ _), (fun k _ h => nomatch (show (none : Option Nat) = some _ from h)), (Nat.zero_le _), rfl⟩ ?_
    rintro mz f9 w9l ⟨k, us, r6, hm, q3, q6, q33, q34, q35, hE, hB2_3, ov2_2, or6, zv2_2_r6, hk, hu⟩
    have hul := ddn_len zs6_3 k
    rw [← hu] at hul
    refine wp_seq ?_
    refine W_region ?_
    refine L (D_v (R_lssI q35 q34) ?_)
    refine S_nil ?_
    refine T_tn ?_
    refine wp_seq ?_
    refine W_if rfl (fun c2 => ?_) (fun c2 => ?_)
    ·
      have lk : k < zs6_3.length := by simp at c2; omega
      refine wp_skip ?_
      refine T_tn ?_
      refine wp_seq ?_
      refine wp_block ?_
      refine wp_seq ?_
      refine W_region ?_
      refine L (D_v (R_move q35) ?_)
      refine L (D_v (R_elAddr (i := k) Try.underlying46 Try.sizeOf53 q33 q35 ov2_2.ls.1 (by (try simp only [List.length_take, List.length_drop, List.length_append, List.length_cons, List.length_nil, List.length_replicate, List.length_set, Nm.b_len, be2_len]); omega)) ?_)
      have k11_2 := (ov2_2.ls).get (getD_some (d := Sg.zero) (by (try simp only [List.length_take, List.length_drop, List.length_append, List.length_cons, List.length_nil, List.length_replicate, List.length_set, Nm.b_len, be2_len]); omega))
      refine L (D_v (R_ldL (C := cS) (i := k) (y := ((zs6_3).getD (k) Sg.zero)) Try.isAgg53 Try.sizeOf53 rfl ov2_2.ls (getD_some (d := Sg.zero) (by (try simp only [List.length_take, List.length_drop, List.length_append, List.length_cons, List.length_nil, List.length_replicate, List.length_set, Nm.b_len, be2_len]); omega))) ?_)
      refine L (D_alloc (c := (Sg.zero).l) Try.zeroValue53 rfl (fun aB11_3 w11_3 e11_3 gB11_3 hB11_3 => ?_))
      have lB11_3 := Nat.le_trans hE.size gB11_3
      have nB2_3B11_3 := hB2_3.ne gB11_3
      have yv2_2_B11_3 : Value.ownBlock v2_2 ≠ some aB11_3 := fun hk => absurd (own_lt ov2_2.1 hk) (Nat.not_lt.2 gB11_3)
      have yr6_B11_3 : Value.ownBlock r6 ≠ some aB11_3 := fun hk => absurd (own_lt or6.1 hk) (Nat.not_lt.2 gB11_3)
      replace hE := hE.trans e11_3
      replace hB2_3 := hB2_3.ext e11_3
      replace ov2_2 := ov2_2.ext e11_3
      replace or6 := or6.ext e11_3
      replace k11_2 := k11_2.fb (Fb.ext e11_3)
      refine L (D_v (R_assign rfl) ?_)
      have xov2_2 := yv2_2_B11_3
      have xor6 := yr6_B11_3
      have h0 := hB11_3
      refine L (D_storeA Try.sizeOf53 hB11_3 rfl rfl rfl rfl rfl (l' := (((zs6_3).getD (k) Sg.zero)).l) rfl (fun w11_5 k11_5 hB11_3 => ?_))
      have f11_5 := Fb.kp k11_5 (Nat.le_trans hlo lB11_3) (Blk.notB h0 rfl)
      replace hE := hE.kp k11_5 lB11_3
      replace hB2_3 := hB2_3.kp k11_5 nB2_3B11_3
      replace ov2_2 := ov2_2.kp k11_5 xov2_2 f11_5
      replace or6 := or6.kp k11_5 xor6 f11_5
      replace k11_2 := k11_2.fb f11_5
      refine S_nil ?_
      refine T_tn ?_
      refine wp_seq ?_
      refine W_draw mixed (by kernel_rfl) ?_
      refine Q_v (fun w hw => R_move rfl) ?_
      refine Q_v (fun w hw => R_eqlI rfl rfl) ?_
      refine Q_v (fun w hw => R_move rfl) ?_
      refine Q_g1 rfl rfl (fun hb w hw => R_fieldAddr Try.runUnderlying53 rfl Try.sizeOf26 rfl) ?_
      refine Q_g1 rfl rfl (fun hb w hw => R_loadA (c := ((((zs6_3).getD (k) Sg.zero)).vote).l) Try.isAgg26 Try.sizeOf26 (hB11_3.ext hw) (cgE hb) rfl rfl) ?_
      refine Q_g1 rfl rfl (fun hb w hw => R_load Try.isAgg46 (hB2_3.ext hw) q3 rfl) ?_
      refine Q_g1 rfl rfl (fun hb w hw => R_move rfl) ?_
      refine Q_g1 rfl rfl (fun hb w hw => R_subN (m := k) (j := 1) (cgE hb) rfl (by first | ((try simp only [List.length_take, List.length_drop, List.length_append, List.length_cons, List.length_nil]); omega) | (simp at hb; omega)) (by first | ((try simp only [List.length_take, List.length_drop, List.length_append, List.length_cons, List.length_nil]); omega) | (simp at hb; omega))) ?_
      refine Q_g1 rfl rfl (fun hb w hw => R_elAddr (i := (k - 1)) Try.underlying46 Try.sizeOf53 (cgE hb) (cgE hb) (ov2_2.ls.ext hw).1 (by first | ((try simp only [List.length_take, List.length_drop, List.length_append, List.length_cons, List.length_nil]); omega) | (simp at hb; omega))) ?_
      refine Q_g1 rfl rfl (fun hb w hw => R_fieldEl (k := (k - 1) * 23) Try.runUnderlying53 rfl Try.sizeOf26 (ov2_2.ls.ext hw).1 (lel_ltz (C := cS) (s := 23) rfl (by decide) (getD_some (d := Sg.zero) (by first | ((try simp only [List.length_take, List.length_drop, List.length_append, List.length_cons, List.length_nil]); omega) | (simp at hb; omega)))) (cgE hb)) ?_
      refine Q_g1 rfl rfl (fun hb w hw => R_ldP (C := cS) (i := (k - 1)) (k := 0) (y := ((zs6_3).getD ((k - 1)) Sg.zero)) (c := ((((zs6_3).getD ((k - 1)) Sg.zero)).vote).l) Try.isAgg26 Try.sizeOf26 (cgE hb) (ov2_2.ls.ext hw) (getD_some (d := Sg.zero) (by first | ((try simp only [List.length_take, List.length_drop, List.length_append, List.length_cons, List.length_nil]); omega) | (simp at hb; omega))) (by decide) (by decide) rfl) ?_
      refine Q_g1 rfl rfl (fun hb w hw => R_neqA Try.eqGuardType26 (eq26 ((((zs6_3).getD (k) Sg.zero)).vote) ((((zs6_3).getD ((k - 1)) Sg.zero)).vote) _) (cgE hb) (cgE hb)) ?_
      refine Q_v (fun w hw => R_pickO rfl rfl rfl) ?_
      refine Q_nil (fun w12_99 e12_99 => ?_)
      replace hE := hE.trans e12_99
      replace hB2_3 := hB2_3.ext e12_99
      replace hB11_3 := hB11_3.ext e12_99
      replace ov2_2 := ov2_2.ext e12_99
      replace or6 := or6.ext e12_99
      replace k11_2 := k11_2.fb (Fb.ext e12_99)
      refine T_tn ?_
      refine W_if rfl (fun c3 => ?_) (fun c3 => ?_)
      ·
        have hc9 := c3
        refine W_region ?_
        refine L (D_v (R_move q6) ?_)
        refine L (D_v (R_loadA (c := (((zs6_3).getD (k) Sg.zero)).l) Try.isAgg53 Try.sizeOf53 hB11_3 rfl rfl rfl) ?_)
        refine L (D_buildL1 (C := cS) (lo := lo) (y := ((zs6_3).getD (k) Sg.zero)) Try.underlying46 Try.sizeOf53 Try.zeroValue53 (mapp1 rfl) (by decide) k11_2 (fun v13_2 w13_2 o13_2 e13_2 => ?_))
        have yv13_2_B11_3 : Value.ownBlock v13_2 ≠ some aB11_3 := fun hk => absurd (own_ge o13_2.1 hk) (Nat.not_le.2 hB11_3.lt)
        have zv2_2_v13_2 := own_apart ov2_2.1 o13_2.1
        have zv13_2_v2_2 := fun k hk hk2 => zv2_2_v13_2 k hk2 hk
        have zr6_v13_2 := own_apart or6.1 o13_2.1
        have zv13_2_r6 := fun k hk hk2 => zr6_v13_2 k hk2 hk
        replace o13_2 := o13_2.low hE.size
        replace hE := hE.trans e13_2
        replace hB2_3 := hB2_3.ext e13_2
        replace hB11_3 := hB11_3.ext e13_2
        replace ov2_2 := ov2_2.ext e13_2
        replace or6 := or6.ext e13_2
        replace k11_2 := k11_2.fb (Fb.ext e13_2)
        refine L (D_appendL elt53 Try.underlying46 rfl rfl or6 hlo o13_2.ls (by (try simp only [List.length_take, List.length_drop, List.length_append, List.length_cons, List.length_nil, List.length_replicate, List.length_set, Nm.b_len, be2_len]); omega) (by (try simp only [List.length_take, List.length_drop, List.length_append, List.length_cons, List.length_nil, List.length_replicate, List.length_set, Nm.b_len, be2_len]); omega) hE.size (fun v13_3 w13_3 o13_3 g13_3 f13_3 sv13_3 => ?_))
        have yv13_3_B11_3 : Value.ownBlock v13_3 ≠ some aB11_3 := fun hk => (sv13_3 _ hk).elim yr6_B11_3 (fun h => absurd h (Nat.not_le.2 hB11_3.lt))
        have zv2_2_v13_3 : ∀ k, Value.ownBlock v2_2 = some k → Value.ownBlock v13_3 ≠ some k := fun k hk2 hk => (sv13_3 _ hk).elim (fun h => zv2_2_r6 k hk2 h) (fun h => absurd h (Nat.not_le.2 (own_lt ov2_2.1 hk2)))
        have zv13_3_v2_2 := fun k hk hk2 => zv2_2_v13_3 k hk2 hk
        have zv13_2_v13_3 : ∀ k, Value.ownBlock v13_2 = some k → Value.ownBlock v13_3 ≠ some k := fun k hk2 hk => (sv13_3 _ hk).elim (fun h => zv13_2_r6 k hk2 h) (fun h => absurd h (Nat.not_le.2 (own_lt o13_2.1 hk2)))
        have zv13_3_v13_2 := fun k hk hk2 => zv13_2_v13_3 k hk2 hk
        replace hE := hE.grown g13_3 (fun k hk => own_ge or6.1 hk)
        replace hB2_3 := hB2_3.grown g13_3 (own_neB or6.1 hB2_3 rfl)
        replace hB11_3 := hB11_3.grown g13_3 (yr6_B11_3)
        replace ov2_2 := ov2_2.grown g13_3 (zv2_2_r6) f13_3
        replace o13_2 := o13_2.grown g13_3 (zv13_2_r6) f13_3
        replace k11_2 := k11_2.fb f13_3
        refine L (D_v (R_assign rfl) ?_)
        refine S_nil ?_
        refine T_bn ?_
        refine T_tn ?_
        refine W_region ?_
        refine L (D_v (R_addN (m := k) (j := 1) q35 rfl (by (try simp only [List.length_take, List.length_drop, List.length_append, List.length_cons, List.length_nil, List.length_replicate, List.length_set, Nm.b_len, be2_len]); omega)) ?_)
        refine L (D_v (R_move rfl) ?_)
        refine S_nil ?_
        refine T_tn ?_
        refine ⟨_, _, ?_, rfl, k + 1, _, _, rfl, q3, rfl, q33, q34, rfl, hE, hB2_3, ov2_2, o13_3, zv2_2_v13_3, ?_, ?_⟩
        all_goals first | omega | exact ddn_y hu (by (try simp at hc9); first | exact hc9 | omega) | exact ddn_n hu (by (try simp at hc9); first | exact hc9 | (simp; exact hc9))
      ·
        have hc9 := c3
        refine wp_skip ?_
        refine T_bn ?_
        refine T_tn ?_
        refine W_region ?_
        refine L (D_v (R_addN (m := k) (j := 1) q35 rfl (by (try simp only [List.length_take, List.length_drop, List.length_append, List.length_cons, List.length_nil, List.length_replicate, List.length_set, Nm.b_len, be2_len]); omega)) ?_)
        refine L (D_v (R_move rfl) ?_)
        refine S_nil ?_
        refine T_tn ?_
        refine ⟨_, _, ?_, rfl, k + 1, _, _, rfl, q3, q6, q33, q34, rfl, hE, hB2_3, ov2_2, or6, zv2_2_r6, ?_, ?_⟩
        all_goals first | omega | exact ddn_y hu (by (try simp at hc9); first | exact hc9 | omega) | exact ddn_n hu (by (try simp at hc9); first | exact hc9 | (simp; exact hc9))
    ·
      obtain rfl : k = zs6_3.length := by have h9 := of_decide_eq_false c2; omega
      refine wp_exit ?_
      refine T_te ?_
      refine T_te ?_
      refine T_be ?_
      refine T_tn ?_
      refine wp_seq ?_
      refine W_region ?_
      refine L (D_v (R_move q6) ?_)
      refine L (D_v (R_assign rfl) ?_)
      refine S_nil ?_
      refine T_tn ?_
      refine wp_ret ?_
      refine ret1 (v := r6) rfl rfl ⟨_, rfl, hE, ?_⟩
      exact ⟨_, or6, zs6_3, by omega, fun p => by rw [hzm, show ys.map Sg.p = xs.map Sg.p from by rw [List.take_of_length_le (by omega), List.take_of_length_le (by omega)] at hyp; exact hyp], hzs, hu⟩
end Go.Proofs.Yteeopgpgbdhmhaa
