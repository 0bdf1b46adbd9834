/- Walks of the functions on bytes: CheckerExhibits, CheckerHonest. No condition. Printed by wip/mkN.py. -/
import Derived.Test.YteeopgpgbdhmhaaWP
import Derived.Test.YteeopgpgbdhmhaaWJ
import Derived.Test.YteeopgpgbdhmhaaPm
import Derived.Test.YteeopgpgbdhmhaaOn
namespace Go.Proofs.Yteeopgpgbdhmhaa
open Go.RowKit
set_option linter.unusedVariables false
set_option linter.unusedSimpArgs false
attribute [local irreducible] wpList wpO H wpQuiet wpStill Code.wp Exit.then Exit.inBlock bodyPost Code.rounds Calls valid sameKey conflict lessV hless num between
-- forkledger/forkledgerref6.Has
set_option maxRecDepth 4000 in
set_option maxHeartbeats 1000000 in
theorem c52 (m i : Int) (w : World) : Calls Try.prog 52 [i64 m, i64 i].toArray w (Ret w (.bool (hasB m i))) := by
  refine enter Try.func52 Try.ntmps52 rfl rfl ?_
  have hE := Ext.refl w
  refine wp_seq ?_
  refine W_region ?_
  refine L (D_v (R_assign rfl) ?_)
  refine S_nil ?_
  refine T_tn ?_
  refine wp_seq ?_
  refine W_region ?_
  refine L (D_v (R_move rfl) ?_)
  refine L (D_v (R_geqI rfl rfl) ?_)
  refine L (D_v (R_move rfl) ?_)
  refine L (D_g1 rfl rfl (fun hb => R_move rfl) ?_)
  refine L (D_g1 rfl rfl (fun hb => R_lssI (cgE hb) rfl) ?_)
  refine L (D_v (R_pickA rfl rfl rfl) ?_)
  refine L (D_v (R_move rfl) ?_)
  refine L (D_g1 rfl rfl (fun hb => R_move rfl) ?_)
  refine L (D_g1 rfl rfl (fun hb => R_move rfl) ?_)
  refine L (D_g1 rfl rfl (fun hb => R_cast (v' := .int .u64 i) (R_conv Try.runUnderlying3 Try.runUnderlying83 (cgE hb)) (congrArg (Value.int .u64) (by have hbp := (show 0 ≤ i ∧ i ≤ 9 by simp at hb; omega); rw [IntKind.wrap_u64]; omega))) ?_)
  refine L (D_g1 rfl rfl (fun hb => R_shrI (m := m) (s := i) (cgE hb) (cgE hb) (by simp at hb; omega)) ?_)
  refine L (D_g1 rfl rfl (fun hb => R_andI (cgE hb) rfl) ?_)
  refine L (D_g1 rfl rfl (fun hb => R_eqlI (cgE hb) rfl) ?_)
  refine L (D_v (R_pickA rfl rfl rfl) ?_)
  refine L (D_v (R_assign rfl) ?_)
  refine S_nil ?_
  refine T_tn ?_
  refine wp_ret ?_
  refine ret1 (v := .bool _) rfl rfl ⟨congrArg (fun b => Ending.returned (Value.bool b)) ?_, hE⟩
  rfl

-- forkledger/forkledgerlaw10.CheckerExhibits
set_option maxRecDepth 4000 in
set_option maxHeartbeats 4000000 in
theorem c12 (vk : Value) (keys : List Nm) (v : Value) (b : List UInt8) (w : World) (hk : Ls cN w.heap.size w vk keys) (h : Bs w v b) : Calls Try.prog 12 [vk, v].toArray w (Ret w (.bool true)) := by
  refine enter Try.func12 Try.ntmps12 rfl rfl ?_
  have hE := Ext.refl w
  have hbb := h.le
  have hb0 := (b.getD 0 0).toNat_lt
  refine wp_seq ?_
  refine W_region ?_
  refine L (D_v (R_assign rfl) ?_)
  refine S_nil ?_
  refine T_tn ?_
  refine wp_seq ?_
  refine W_region ?_
  refine L (D_v (R_move rfl) ?_)
  refine L (D_v (R_move rfl) ?_)
  refine L (D_call (R_callF Try.call45 rfl rfl) (c45 vk (keys) v (b) _ ((hk.ext hE).lev fun _ _ _ => trivial) (h.ext hE)) (fun w2_2 e2_2 => ?_))
  replace hE := hE.trans e2_2
  refine L (D_v (R_move rfl) ?_)
  refine L (D_v (R_extract rfl rfl) ?_)
  refine L (D_v (R_extract rfl rfl) ?_)
  refine L (D_v (R_assign rfl) ?_)
  refine L (D_v (R_assign rfl) ?_)
  refine S_nil ?_
  refine T_tn ?_
  refine wp_seq ?_
  refine wp_seq ?_
  refine W_region ?_
  refine L (D_v (R_move rfl) ?_)
  refine L (D_v (R_neqI rfl rfl) ?_)
  refine S_nil ?_
  refine T_tn ?_
  refine W_if rfl (fun c1 => ?_) (fun c1 => ?_)
  ·
    have hx : (chk keys b).2 ≠ 0 := by simpa using c1
    refine wp_seq ?_
    refine W_region ?_
    refine L (D_v (R_move rfl) ?_)
    refine L (D_v (R_eqlI rfl rfl) ?_)
    refine L (D_v (R_move rfl) ?_)
    refine L (D_gc1 rfl rfl (fun hb => R_callF Try.call44 rfl rfl) (fun hb => c44 _) (fun w4_3 e4_3 => ?_))
    replace hE := hE.trans e4_3
    refine L (D_v (R_pickA rfl rfl rfl) ?_)
    refine L (D_v (R_assign rfl) ?_)
    refine S_nil ?_
    refine T_tn ?_
    refine wp_ret ?_
    refine T_tr ?_
    refine ret1 (v := .bool _) rfl rfl ⟨congrArg (fun b => Ending.returned (Value.bool b)) ?_, hE⟩
    rw [chk_err hx]; rfl
  ·
    have hx : (chk keys b).2 = 0 := by simpa using c1
    obtain ⟨hlen, hn1, hn10, hch0⟩ := chk_ok hx
    refine wp_skip ?_
    refine T_tn ?_
    refine wp_seq ?_
    refine wp_seq ?_
    refine W_region ?_
    refine L (D_v (R_move rfl) ?_)
    refine L (D_v (R_len Try.underlying31 rfl (h.ext hE)) ?_)
    refine L (D_v (R_lssI rfl rfl) ?_)
    refine L (D_v (R_move rfl) ?_)
    refine L (D_g1 rfl rfl (fun hb => R_move rfl) ?_)
    refine L (D_g1 rfl rfl (fun hb => R_len Try.underlying31 (cgE hb) (h.ext hE)) ?_)
    refine L (D_g1 rfl rfl (fun hb => R_subN (m := (b).length) (j := 1) (cgE hb) rfl (by (try simp only [List.length_take, List.length_drop, List.length_append, List.length_cons, List.length_nil, List.length_replicate, List.length_set, Nm.b_len, be2_len]); omega) (by (try simp only [List.length_take, List.length_drop, List.length_append, List.length_cons, List.length_nil, List.length_replicate, List.length_set, Nm.b_len, be2_len]); omega)) ?_)
    refine L (D_g1 rfl rfl (fun hb => R_remN (m := ((b).length - 1)) (j := 786) (cgE hb) rfl (by decide) (by (try simp only [List.length_take, List.length_drop, List.length_append, List.length_cons, List.length_nil, List.length_replicate, List.length_set, Nm.b_len, be2_len]); omega)) ?_)
    refine L (D_g1 rfl rfl (fun hb => R_neqI (cgE hb) rfl) ?_)
    refine L (D_v (R_pickO rfl rfl rfl) ?_)
    refine S_nil ?_
    refine T_tn ?_
    refine W_if rfl (fun c2 => ?_) (fun c2 => ?_)
    ·
      exfalso; simp at c2; omega
    ·
      refine wp_skip ?_
      refine T_tn ?_
      refine wp_seq ?_
      refine W_region ?_
      refine L (D_v (R_assign rfl) ?_)
      refine S_nil ?_
      refine T_tn ?_
      refine wp_seq ?_
      refine wp_seq ?_
      refine W_region ?_
      refine L (D_v (R_assign rfl) ?_)
      refine S_nil ?_
      refine T_tn ?_
      refine wp_block ?_
      refine W_loop (fun mz g W => ∃ (i : Nat) (p : Int) (gu : Int), mz = 11 - i ∧ g 0 = vk ∧ g 1 = v ∧ g 5 = i64 (chk (keys) (b)).1 ∧ g 7 = i64 gu ∧ g 8 = i64 ((1 + 786 * i : Nat) : Int) ∧ Ext w W ∧ i ≤ (b.getD 0 0).toNat ∧ chkS keys ((b.getD 0 0).toNat - i) (b.drop (1 + 786 * i)) p gu = chk keys b ∧ (0 ≤ gu ∧ gu < 1024) ∧ (0 < i → 0 < gu)) ⟨0, (-1), 0, rfl, rfl, rfl, rfl, rfl, rfl, hE, (Nat.zero_le _), hch0, (by decide), (by omega)⟩ ?_
      rintro mz f7 w7l ⟨i, p, gu, hm, q0, q1, q5, q7, q8, hE, hi, hch, hg, hgp⟩
      refine wp_seq ?_
      refine wp_seq ?_
      refine W_region ?_
      refine L (D_v (R_move q8) ?_)
      refine L (D_v (R_move q1) ?_)
      refine L (D_v (R_len Try.underlying31 rfl (h.ext hE)) ?_)
      refine L (D_v (R_lssI rfl rfl) ?_)
      refine S_nil ?_
      refine T_tn ?_
      refine W_if rfl (fun c3 => ?_) (fun c3 => ?_)
      ·
        have lk : i < (b.getD 0 0).toNat := by have e := of_decide_eq_true c3; omega
        obtain ⟨k, hkk⟩ : ∃ k2, (b.getD 0 0).toNat - i = k2 + 1 := ⟨(b.getD 0 0).toNat - i - 1, by omega⟩
        rw [hkk] at hch
        obtain ⟨he, hf, hch2⟩ := chkS_step hch hx
        have hsg := flt_signer hf
        have hT : ((b.drop (1 + 786 * i)).take ((1 + 786 * i + 786) - (1 + 786 * i))) = (b.drop (1 + 786 * i)).take 786 := by congr 1; omega
        refine wp_skip ?_
        refine T_tn ?_
        refine wp_seq ?_
        refine wp_block ?_
        refine wp_seq ?_
        refine W_region ?_
        refine L (D_v (R_move q1) ?_)
        refine L (D_v (R_move q8) ?_)
        refine L (D_v (R_move q8) ?_)
        refine L (D_v (R_addN (m := (1 + 786 * i)) (j := 786) rfl rfl (by (try simp only [List.length_take, List.length_drop, List.length_append, List.length_cons, List.length_nil, List.length_replicate, List.length_set, Nm.b_len, be2_len]); omega)) ?_)
        refine L (D_v (R_sliceLH (i := (1 + 786 * i)) (j := ((1 + 786 * i) + 786)) Try.underlying31 Try.sizeOf5 rfl rfl rfl (h.ext hE) (by (try simp only [List.length_take, List.length_drop, List.length_append, List.length_cons, List.length_nil, List.length_replicate, List.length_set, Nm.b_len, be2_len]); omega) (by (try simp only [List.length_take, List.length_drop, List.length_append, List.length_cons, List.length_nil, List.length_replicate, List.length_set, Nm.b_len, be2_len]); omega)) ?_)
        refine L (D_callE (R_callF Try.call49 rfl rfl) (c49 (cutV v 1 ((1 + 786 * i)) (((1 + 786 * i) + 786))) ((((b).drop ((1 + 786 * i))).take (((1 + 786 * i) + 786) - (1 + 786 * i)))) _ ((h.ext hE).cut (by (try simp only [List.length_take, List.length_drop, List.length_append, List.length_cons, List.length_nil, List.length_replicate, List.length_set, Nm.b_len, be2_len]); omega) (by (try simp only [List.length_take, List.length_drop, List.length_append, List.length_cons, List.length_nil, List.length_replicate, List.length_set, Nm.b_len, be2_len]); omega))) (fun v9_5 w9_5 e9_5 p9_5 => ?_))
        obtain ⟨x9_5, rfl, p9_5a, k9_5⟩ := p9_5
        replace hE := hE.trans e9_5
        refine L (D_v (R_move rfl) ?_)
        refine L (D_v (R_extract rfl rfl) ?_)
        refine L (D_v (R_extract rfl rfl) ?_)
        refine L (D_alloc (c := (Ev.zero).l) Try.zeroValue55 rfl (fun aB9_9 w9_9 e9_9 gB9_9 hB9_9 => ?_))
        have lB9_9 := Nat.le_trans hE.size gB9_9
        replace hE := hE.trans e9_9
        replace k9_5 := k9_5.fb (Fb.ext e9_9)
        have h0 := hB9_9
        refine L (D_storeA Try.sizeOf55 hB9_9 rfl rfl rfl rfl rfl (l' := (x9_5).l) rfl (fun w9_10 k9_10 hB9_9 => ?_))
        have f9_10 := Fb.kp k9_10 (Nat.le_trans (Nat.le_refl _) lB9_9) (Blk.notB h0 rfl)
        replace hE := hE.kp k9_10 lB9_9
        replace k9_5 := k9_5.fb (Fb.kp k9_10 (Nat.zero_le _) (Blk.notB h0 rfl))
        refine L (D_v (R_assign rfl) ?_)
        refine S_nil ?_
        refine T_tn ?_
        refine wp_seq ?_
        refine wp_seq ?_
        refine W_region ?_
        refine L (D_v (R_move rfl) ?_)
        refine L (D_v (R_neqI rfl rfl) ?_)
        refine L (D_v (R_move rfl) ?_)
        refine L (D_g1 rfl rfl (fun hb => R_move q0) ?_)
        refine L (D_g1 rfl rfl (fun hb => R_loadA (c := (x9_5).l) Try.isAgg55 Try.sizeOf55 hB9_9 rfl rfl rfl) ?_)
        refine L (D_gc1 rfl rfl (fun hb => R_callF Try.call50 (mapv2 (cgE hb) (cgE hb)) rfl) (fun hb => c50 vk (keys) (x9_5) _ ((hk.ext hE).lev fun _ _ _ => trivial) ((k9_5.up (Nat.zero_le _)).up (Nat.le_trans (Nat.le_refl _) hE.size))) (fun w10_5 e10_5 => ?_))
        replace hE := hE.trans e10_5
        replace hB9_9 := hB9_9.ext e10_5
        replace k9_5 := k9_5.fb (Fb.ext e10_5)
        refine L (D_g1 rfl rfl (fun hb => R_not (cgE hb)) ?_)
        refine L (D_v (R_pickO rfl rfl rfl) ?_)
        refine S_nil ?_
        refine T_tn ?_
        refine W_if rfl (fun c4 => ?_) (fun c4 => ?_)
        ·
          exfalso; rw [hT] at p9_5a c4; rw [p9_5a, he, validE_of hf] at c4; simp at c4
        ·
          rw [hT] at p9_5a
          rw [← p9_5a, List.drop_drop] at hch2
          rw [← p9_5a] at hsg
          have hbr : bitR (x9_5).a.vote.signer = bitI (x9_5).a.vote.signer := bitR_in hsg
          have hg2 := or_bit hg hsg
          refine wp_skip ?_
          refine T_tn ?_
          refine W_region ?_
          refine L (D_v (R_move q7) ?_)
          refine L (D_v (R_fieldAddr Try.runUnderlying55 rfl Try.sizeOf53 rfl) ?_)
          refine L (D_v (R_fieldAddr Try.runUnderlying53 rfl Try.sizeOf26 rfl) ?_)
          refine L (D_v (R_fieldAddr Try.runUnderlying26 rfl Try.sizeOf3 rfl) ?_)
          refine L (D_v (R_load Try.isAgg3 hB9_9 rfl rfl) ?_)
          refine L (D_call (R_callF Try.call51 rfl rfl) (c51 ((x9_5).a).vote.signer _) (fun w11_5 e11_5 => ?_))
          replace hE := hE.trans e11_5
          replace hB9_9 := hB9_9.ext e11_5
          replace k9_5 := k9_5.fb (Fb.ext e11_5)
          refine L (D_v (R_orI rfl rfl) ?_)
          refine L (D_v (R_assign rfl) ?_)
          refine S_nil ?_
          refine T_bn ?_
          refine T_tn ?_
          refine W_region ?_
          refine L (D_v (R_move q8) ?_)
          refine L (D_v (R_addN (m := (1 + 786 * i)) (j := 786) rfl rfl (by (try simp only [List.length_take, List.length_drop, List.length_append, List.length_cons, List.length_nil, List.length_replicate, List.length_set, Nm.b_len, be2_len]); omega)) ?_)
          refine L (D_v (R_assign rfl) ?_)
          refine S_nil ?_
          refine T_tn ?_
          refine ⟨_, _, ?_, rfl, i + 1, (x9_5).a.vote.signer, _, rfl, q0, q1, q5, rfl, ?_, hE, ?_, ?_, ?_, ?_⟩
          all_goals first | omega | (rw [show (b.getD 0 0).toNat - (i + 1) = k by omega, show 1 + 786 * (i + 1) = 1 + 786 * i + 786 by omega, hbr]; exact hch2) | (rw [hbr]; exact ⟨Int.le_of_lt hg2.1, hg2.2⟩) | (rw [hbr]; exact fun _ => hg2.1) | exact congrArg (fun z : Nat => i64 (z : Int)) (by omega)
      ·
        have hk0 : (b.getD 0 0).toNat - i = 0 := by have e := of_decide_eq_false c3; omega
        rw [hk0] at hch
        have hm : (chk keys b).1 = gu := by rw [← hch]; rfl
        have hp0 : 0 < gu := hgp (by omega)
        refine wp_exit ?_
        refine T_te ?_
        refine T_te ?_
        refine T_be ?_
        refine T_tn ?_
        refine wp_seq ?_
        refine W_region ?_
        refine L (D_v (R_move q7) ?_)
        refine L (D_v (R_move q5) ?_)
        refine L (D_v (R_eqlI rfl rfl) ?_)
        refine L (D_v (R_move rfl) ?_)
        refine L (D_g1 rfl rfl (fun hb => R_move q5) ?_)
        refine L (D_g1 rfl rfl (fun hb => R_neqI (cgE hb) rfl) ?_)
        refine L (D_v (R_pickA rfl rfl rfl) ?_)
        refine L (D_v (R_move rfl) ?_)
        refine L (D_gc1 rfl rfl (fun hb => R_callF Try.call44 rfl rfl) (fun hb => c44 _) (fun w9_8 e9_8 => ?_))
        replace hE := hE.trans e9_8
        refine L (D_v (R_pickA rfl rfl rfl) ?_)
        refine L (D_v (R_assign rfl) ?_)
        refine S_nil ?_
        refine T_tn ?_
        refine wp_ret ?_
        refine ret1 (v := .bool _) rfl rfl ⟨congrArg (fun b => Ending.returned (Value.bool b)) ?_, hE⟩
        rw [hm]
        have e1 : (gu == gu) = true := by simp
        have e2 : (gu != 0) = true := by simp; omega
        rw [e1, e2]; rfl

-- forkledger/forkledgerlaw10.CheckerHonest
set_option maxRecDepth 4000 in
set_option maxHeartbeats 8000000 in
theorem c13 (vk : Value) (keys : List Nm) (v : Value) (b : List UInt8) (id : Int) (vo : Value) (own : List Vt) (w : World) (hk : Ls cN w.heap.size w vk keys) (h : Bs w v b) (ho : Ls cV w.heap.size w vo own) : Calls Try.prog 13 [vk, v, i64 id, vo].toArray w (Ret w (.bool true)) := by
  refine enter Try.func13 Try.ntmps13 rfl rfl ?_
  have hE := Ext.refl w
  have hbb := h.le
  have hb0 := (b.getD 0 0).toNat_lt
  refine wp_seq ?_
  refine W_region ?_
  refine L (D_v (R_assign rfl) ?_)
  refine S_nil ?_
  refine T_tn ?_
  refine wp_seq ?_
  refine wp_seq ?_
  refine W_region ?_
  refine L (D_v (R_move rfl) ?_)
  refine L (D_v (R_len Try.underlying61 rfl (ho.ext hE).1) ?_)
  refine L (D_v (R_gtrI rfl rfl) ?_)
  refine S_nil ?_
  refine T_tn ?_
  refine W_if rfl (fun c1 => ?_) (fun c1 => ?_)
  ·
    refine wp_seq ?_
    refine W_region ?_
    refine L (D_call (R_callF Try.call44 rfl rfl) (c44 _) (fun w3_0 e3_0 => ?_))
    replace hE := hE.trans e3_0
    refine L (D_v (R_assign rfl) ?_)
    refine S_nil ?_
    refine T_tn ?_
    refine wp_ret ?_
    refine T_tr ?_
    refine ret1 (v := .bool _) rfl rfl ⟨congrArg (fun b => Ending.returned (Value.bool b)) ?_, hE⟩
    rfl
  ·
    have hol : own.length ≤ 200 := by have e := of_decide_eq_false c1; omega
    refine wp_skip ?_
    refine T_tn ?_
    refine wp_seq ?_
    refine wp_seq ?_
    refine W_region ?_
    refine L (D_v (R_assign rfl) ?_)
    refine S_nil ?_
    refine T_tn ?_
    refine wp_block ?_
    refine W_loop (fun mz g W => ∃ (i : Nat), mz = own.length - i ∧ g 0 = vk ∧ g 1 = v ∧ g 2 = i64 id ∧ g 3 = vo ∧ g 9 = i64 ((i : Nat) : Int) ∧ Ext w W ∧ (∀ a : Nat, a < i → ∀ c : Nat, c < a → ∀ x y, own[a]? = some x → own[c]? = some y → conflict x y = false)) ⟨0, rfl, rfl, rfl, rfl, rfl, rfl, hE, (fun a ha => absurd ha (by omega))⟩ ?_
    rintro mz f4 w4l ⟨i, hm, q0, q1, q2, q3, q9, hE, hall⟩
    refine wp_seq ?_
    refine wp_seq ?_
    refine W_region ?_
    refine L (D_v (R_move q9) ?_)
    refine L (D_v (R_move q3) ?_)
    refine L (D_v (R_len Try.underlying61 rfl (ho.ext hE).1) ?_)
    refine L (D_v (R_lssI rfl rfl) ?_)
    refine S_nil ?_
    refine T_tn ?_
    refine W_if rfl (fun c2 => ?_) (fun c2 => ?_)
    ·
      have li : i < own.length := by have e := of_decide_eq_true c2; omega
      refine wp_skip ?_
      refine T_tn ?_
      refine wp_seq ?_
      refine wp_block ?_
      refine wp_seq ?_
      refine W_region ?_
      refine L (D_v (R_assign rfl) ?_)
      refine S_nil ?_
      refine T_tn ?_
      refine wp_block ?_
      refine W_loop (fun mz g W => ∃ (j : Nat), mz = i - j ∧ g 0 = vk ∧ g 1 = v ∧ g 2 = i64 id ∧ g 3 = vo ∧ g 9 = i64 ((i : Nat) : Int) ∧ g 10 = i64 ((j : Nat) : Int) ∧ Ext w W ∧ j ≤ i ∧ (∀ c : Nat, c < j → ∀ x y, own[i]? = some x → own[c]? = some y → conflict x y = false)) ⟨0, rfl, q0, q1, q2, q3, q9, rfl, hE, (Nat.zero_le _), (fun c hc => absurd hc (by omega))⟩ ?_
      rintro mz f7 w7l ⟨j, hm, q0, q1, q2, q3, q9, q10, hE, hji, hin⟩
      refine wp_seq ?_
      refine wp_seq ?_
      refine W_region ?_
      refine L (D_v (R_move q10) ?_)
      refine L (D_v (R_move q9) ?_)
      refine L (D_v (R_lssI rfl rfl) ?_)
      refine S_nil ?_
      refine T_tn ?_
      refine W_if rfl (fun c3 => ?_) (fun c3 => ?_)
      ·
        have lj : j < i := by have e := of_decide_eq_true c3; omega
        refine wp_skip ?_
        refine T_tn ?_
        refine wp_seq ?_
        refine wp_block ?_
        refine wp_seq ?_
        refine W_draw mixed (by kernel_rfl) ?_
        refine Q_v (fun w hw => R_move q3) ?_
        refine Q_v (fun w hw => R_move q9) ?_
        refine Q_v (fun w hw => R_elAddr (i := i) Try.underlying61 Try.sizeOf26 rfl rfl (ho.ext (hE.trans hw)).1 (by (try simp only [List.length_take, List.length_drop, List.length_append, List.length_cons, List.length_nil, List.length_replicate, List.length_set, Nm.b_len, be2_len]); omega)) ?_
        refine Q_v (fun w hw => R_ldL (C := cV) (i := i) (y := ((own).getD (i) Vt.zero)) Try.isAgg26 Try.sizeOf26 rfl (ho.ext (hE.trans hw)) (getD_some (d := Vt.zero) (by (try simp only [List.length_take, List.length_drop, List.length_append, List.length_cons, List.length_nil, List.length_replicate, List.length_set, Nm.b_len, be2_len]); omega))) ?_
        refine Q_v (fun w hw => R_move q3) ?_
        refine Q_v (fun w hw => R_move q10) ?_
        refine Q_v (fun w hw => R_elAddr (i := j) Try.underlying61 Try.sizeOf26 rfl rfl (ho.ext (hE.trans hw)).1 (by (try simp only [List.length_take, List.length_drop, List.length_append, List.length_cons, List.length_nil, List.length_replicate, List.length_set, Nm.b_len, be2_len]); omega)) ?_
        refine Q_v (fun w hw => R_ldL (C := cV) (i := j) (y := ((own).getD (j) Vt.zero)) Try.isAgg26 Try.sizeOf26 rfl (ho.ext (hE.trans hw)) (getD_some (d := Vt.zero) (by (try simp only [List.length_take, List.length_drop, List.length_append, List.length_cons, List.length_nil, List.length_replicate, List.length_set, Nm.b_len, be2_len]); omega))) ?_
        refine Q_call (fun w hw => R_callF Try.call32 rfl rfl) (fun w hw => c32 (((own).getD (i) Vt.zero)) (((own).getD (j) Vt.zero)) _ ) ?_
        refine Q_nil (fun w9_99 e9_99 => ?_)
        replace hE := hE.trans e9_99
        refine T_tn ?_
        refine W_if rfl (fun c4 => ?_) (fun c4 => ?_)
        ·
          refine wp_seq ?_
          refine W_region ?_
          refine L (D_call (R_callF Try.call44 rfl rfl) (c44 _) (fun w10_0 e10_0 => ?_))
          replace hE := hE.trans e10_0
          refine L (D_v (R_assign rfl) ?_)
          refine S_nil ?_
          refine T_tn ?_
          refine wp_ret ?_
          refine T_br ?_
          refine T_tr ?_
          refine T_tr ?_
          refine T_br ?_
          refine T_br ?_
          refine T_tr ?_
          refine T_tr ?_
          refine T_br ?_
          refine T_tr ?_
          refine ret1 (v := .bool _) rfl rfl ⟨congrArg (fun b => Ending.returned (Value.bool b)) ?_, hE⟩
          rfl
        ·
          have hcf : conflict (own.getD i Vt.zero) (own.getD j Vt.zero) = false := c4
          refine wp_skip ?_
          refine T_bn ?_
          refine T_tn ?_
          refine W_region ?_
          refine L (D_v (R_move q10) ?_)
          refine L (D_v (R_addN (m := j) (j := 1) rfl rfl (by (try simp only [List.length_take, List.length_drop, List.length_append, List.length_cons, List.length_nil, List.length_replicate, List.length_set, Nm.b_len, be2_len]); omega)) ?_)
          refine L (D_v (R_assign rfl) ?_)
          refine S_nil ?_
          refine T_tn ?_
          refine ⟨_, _, ?_, rfl, j + 1, rfl, q0, q1, q2, q3, q9, rfl, hE, ?_, ?_⟩
          all_goals first | omega | exact fun c hc x y hx hy => (Nat.lt_succ_iff_lt_or_eq.1 hc).elim (fun h1 => hin c h1 x y hx hy) (fun h1 => by subst h1; rw [List.getD_eq_getElem?_getD, hx, List.getD_eq_getElem?_getD, hy] at hcf; exact hcf)
      ·
        have lj : ¬ j < i := by have e := of_decide_eq_false c3; omega
        refine wp_exit ?_
        refine T_te ?_
        refine T_te ?_
        refine T_be ?_
        refine T_bn ?_
        refine T_tn ?_
        refine W_region ?_
        refine L (D_v (R_move q9) ?_)
        refine L (D_v (R_addN (m := i) (j := 1) rfl rfl (by (try simp only [List.length_take, List.length_drop, List.length_append, List.length_cons, List.length_nil, List.length_replicate, List.length_set, Nm.b_len, be2_len]); omega)) ?_)
        refine L (D_v (R_assign rfl) ?_)
        refine S_nil ?_
        refine T_tn ?_
        refine ⟨_, _, ?_, rfl, i + 1, rfl, q0, q1, q2, q3, rfl, hE, ?_⟩
        all_goals first | omega | exact fun a ha c hac x y hx hy => (Nat.lt_succ_iff_lt_or_eq.1 ha).elim (fun h1 => hall a h1 c hac x y hx hy) (fun h1 => by subst h1; exact hin c (by omega) x y hx hy)
    ·
      have hno : ∀ i k : Nat, k < i → ∀ x y, own[i]? = some x → own[k]? = some y → conflict x y = false := fun a c hac x y hx hy => hall a (by have := (List.getElem?_eq_some_iff.1 hx).1; have e := of_decide_eq_false c2; omega) c hac x y hx hy
      refine wp_exit ?_
      refine T_te ?_
      refine T_te ?_
      refine T_be ?_
      refine T_tn ?_
      refine wp_seq ?_
      refine W_region ?_
      refine L (D_v (R_move q0) ?_)
      refine L (D_v (R_move q1) ?_)
      refine L (D_call (R_callF Try.call45 rfl rfl) (c45 vk (keys) v (b) _ ((hk.ext hE).lev fun _ _ _ => trivial) (h.ext hE)) (fun w6_2 e6_2 => ?_))
      replace hE := hE.trans e6_2
      refine L (D_v (R_move rfl) ?_)
      refine L (D_v (R_extract rfl rfl) ?_)
      refine L (D_v (R_extract rfl rfl) ?_)
      refine L (D_v (R_assign rfl) ?_)
      refine L (D_v (R_assign rfl) ?_)
      refine S_nil ?_
      refine T_tn ?_
      refine wp_seq ?_
      refine wp_seq ?_
      refine W_region ?_
      refine L (D_v (R_move rfl) ?_)
      refine L (D_v (R_neqI rfl rfl) ?_)
      refine L (D_v (R_move rfl) ?_)
      refine L (D_g1 rfl rfl (fun hb => R_move rfl) ?_)
      refine L (D_g1 rfl rfl (fun hb => R_move q2) ?_)
      refine L (D_gc1 rfl rfl (fun hb => R_callF Try.call52 (mapv2 (cgE hb) (cgE hb)) rfl) (fun hb => c52 (chk (keys) (b)).1 id _) (fun w7_5 e7_5 => ?_))
      replace hE := hE.trans e7_5
      refine L (D_g1 rfl rfl (fun hb => R_not (cgE hb)) ?_)
      refine L (D_v (R_pickO rfl rfl rfl) ?_)
      refine S_nil ?_
      refine T_tn ?_
      refine W_if rfl (fun c3 => ?_) (fun c3 => ?_)
      ·
        refine wp_seq ?_
        refine W_region ?_
        refine L (D_call (R_callF Try.call44 rfl rfl) (c44 _) (fun w8_0 e8_0 => ?_))
        replace hE := hE.trans e8_0
        refine L (D_v (R_assign rfl) ?_)
        refine S_nil ?_
        refine T_tn ?_
        refine wp_ret ?_
        refine T_tr ?_
        refine ret1 (v := .bool _) rfl rfl ⟨congrArg (fun b => Ending.returned (Value.bool b)) ?_, hE⟩
        rfl
      ·
        have hx2 : ((chk keys b).2 != 0) = false ∧ hasB (chk keys b).1 id = true := by have e := c3; simp only [Bool.or_eq_false_iff, Bool.not_eq_false'] at e; exact e
        have hx : (chk keys b).2 = 0 := by simpa using hx2.1
        obtain ⟨hlen, hn1, hn10, hch0⟩ := chk_ok hx
        refine wp_skip ?_
        refine T_tn ?_
        refine wp_seq ?_
        refine wp_seq ?_
        refine W_region ?_
        refine L (D_v (R_assign rfl) ?_)
        refine S_nil ?_
        refine T_tn ?_
        refine wp_block ?_
        refine W_loop (fun mz g W => ∃ (i : Nat) (p : Int) (gu : Int), mz = 11 - i ∧ g 1 = v ∧ g 2 = i64 id ∧ g 3 = vo ∧ g 13 = i64 ((1 + 786 * i : Nat) : Int) ∧ Ext w W ∧ i ≤ (b.getD 0 0).toNat ∧ chkS keys ((b.getD 0 0).toNat - i) (b.drop (1 + 786 * i)) p gu = chk keys b ∧ (0 ≤ gu ∧ gu < 1024) ∧ hasB gu id = false) ⟨0, (-1), 0, rfl, q1, q2, q3, rfl, hE, (Nat.zero_le _), hch0, (by decide), (hasB_zero id)⟩ ?_
        rintro mz f9 w9l ⟨i, p, gu, hm, q1, q2, q3, q13, hE, hi, hch, hg, hid⟩
        refine wp_seq ?_
        refine wp_seq ?_
        refine W_region ?_
        refine L (D_v (R_move q13) ?_)
        refine L (D_v (R_addN (m := (1 + 786 * i)) (j := 786) rfl rfl (by (try simp only [List.length_take, List.length_drop, List.length_append, List.length_cons, List.length_nil, List.length_replicate, List.length_set, Nm.b_len, be2_len]); omega)) ?_)
        refine L (D_v (R_move q1) ?_)
        refine L (D_v (R_len Try.underlying31 rfl (h.ext hE)) ?_)
        refine L (D_v (R_leqI rfl rfl) ?_)
        refine S_nil ?_
        refine T_tn ?_
        refine W_if rfl (fun c4 => ?_) (fun c4 => ?_)
        ·
          have lk : i < (b.getD 0 0).toNat := by have e := of_decide_eq_true c4; omega
          obtain ⟨k, hkk⟩ : ∃ k2, (b.getD 0 0).toNat - i = k2 + 1 := ⟨(b.getD 0 0).toNat - i - 1, by omega⟩
          rw [hkk] at hch
          obtain ⟨he, hf, hch2⟩ := chkS_step hch hx
          have hsg := flt_signer hf
          have hT : ((b.drop (1 + 786 * i)).take ((1 + 786 * i + 786) - (1 + 786 * i))) = (b.drop (1 + 786 * i)).take 786 := by congr 1; omega
          refine wp_skip ?_
          refine T_tn ?_
          refine wp_seq ?_
          refine wp_block ?_
          refine wp_seq ?_
          refine W_region ?_
          refine L (D_v (R_move q1) ?_)
          refine L (D_v (R_move q13) ?_)
          refine L (D_v (R_move q13) ?_)
          refine L (D_v (R_addN (m := (1 + 786 * i)) (j := 786) rfl rfl (by (try simp only [List.length_take, List.length_drop, List.length_append, List.length_cons, List.length_nil, List.length_replicate, List.length_set, Nm.b_len, be2_len]); omega)) ?_)
          refine L (D_v (R_sliceLH (i := (1 + 786 * i)) (j := ((1 + 786 * i) + 786)) Try.underlying31 Try.sizeOf5 rfl rfl rfl (h.ext hE) (by (try simp only [List.length_take, List.length_drop, List.length_append, List.length_cons, List.length_nil, List.length_replicate, List.length_set, Nm.b_len, be2_len]); omega) (by (try simp only [List.length_take, List.length_drop, List.length_append, List.length_cons, List.length_nil, List.length_replicate, List.length_set, Nm.b_len, be2_len]); omega)) ?_)
          refine L (D_callE (R_callF Try.call49 rfl rfl) (c49 (cutV v 1 ((1 + 786 * i)) (((1 + 786 * i) + 786))) ((((b).drop ((1 + 786 * i))).take (((1 + 786 * i) + 786) - (1 + 786 * i)))) _ ((h.ext hE).cut (by (try simp only [List.length_take, List.length_drop, List.length_append, List.length_cons, List.length_nil, List.length_replicate, List.length_set, Nm.b_len, be2_len]); omega) (by (try simp only [List.length_take, List.length_drop, List.length_append, List.length_cons, List.length_nil, List.length_replicate, List.length_set, Nm.b_len, be2_len]); omega))) (fun v11_5 w11_5 e11_5 p11_5 => ?_))
          obtain ⟨x11_5, rfl, p11_5a, k11_5⟩ := p11_5
          replace hE := hE.trans e11_5
          refine L (D_v (R_move rfl) ?_)
          refine L (D_v (R_extract rfl rfl) ?_)
          refine L (D_v (R_extract rfl rfl) ?_)
          refine L (D_alloc (c := (Ev.zero).l) Try.zeroValue55 rfl (fun aB11_9 w11_9 e11_9 gB11_9 hB11_9 => ?_))
          have lB11_9 := Nat.le_trans hE.size gB11_9
          replace hE := hE.trans e11_9
          replace k11_5 := k11_5.fb (Fb.ext e11_9)
          have h0 := hB11_9
          refine L (D_storeA Try.sizeOf55 hB11_9 rfl rfl rfl rfl rfl (l' := (x11_5).l) rfl (fun w11_10 k11_10 hB11_9 => ?_))
          have f11_10 := Fb.kp k11_10 (Nat.le_trans (Nat.le_refl _) lB11_9) (Blk.notB h0 rfl)
          replace hE := hE.kp k11_10 lB11_9
          replace k11_5 := k11_5.fb (Fb.kp k11_10 (Nat.zero_le _) (Blk.notB h0 rfl))
          refine L (D_v (R_assign rfl) ?_)
          refine S_nil ?_
          refine T_tn ?_
          refine wp_seq ?_
          refine wp_seq ?_
          refine W_region ?_
          refine L (D_v (R_fieldAddr Try.runUnderlying55 rfl Try.sizeOf53 rfl) ?_)
          refine L (D_v (R_fieldAddr Try.runUnderlying53 rfl Try.sizeOf26 rfl) ?_)
          refine L (D_v (R_fieldAddr Try.runUnderlying26 rfl Try.sizeOf3 rfl) ?_)
          refine L (D_v (R_load Try.isAgg3 hB11_9 rfl rfl) ?_)
          refine L (D_v (R_move q2) ?_)
          refine L (D_v (R_neqI rfl rfl) ?_)
          refine S_nil ?_
          refine T_tn ?_
          refine W_if rfl (fun c5 => ?_) (fun c5 => ?_)
          ·
            rw [hT] at p11_5a
            rw [← p11_5a, List.drop_drop] at hch2
            rw [← p11_5a] at hsg hf
            have hne : (x11_5).a.vote.signer ≠ id := by simpa using c5
            have hid2 := (hasB_or hg hsg hne).trans hid
            have hg2 := or_bit hg hsg
            refine wp_exit ?_
            refine T_te ?_
            refine T_be ?_
            refine T_tn ?_
            refine W_region ?_
            refine L (D_v (R_move q13) ?_)
            refine L (D_v (R_addN (m := (1 + 786 * i)) (j := 786) rfl rfl (by (try simp only [List.length_take, List.length_drop, List.length_append, List.length_cons, List.length_nil, List.length_replicate, List.length_set, Nm.b_len, be2_len]); omega)) ?_)
            refine L (D_v (R_assign rfl) ?_)
            refine S_nil ?_
            refine T_tn ?_
            refine ⟨_, _, ?_, rfl, i + 1, (x11_5).a.vote.signer, (bits .or .i64 gu (bitI (x11_5).a.vote.signer)), rfl, q1, q2, q3, rfl, hE, ?_, ?_, ?_, ?_⟩
            all_goals first | omega | (rw [show (b.getD 0 0).toNat - (i + 1) = k by omega, show 1 + 786 * (i + 1) = 1 + 786 * i + 786 by omega]; exact hch2) | exact ⟨Int.le_of_lt hg2.1, hg2.2⟩ | exact hid2 | exact congrArg (fun z : Nat => i64 (z : Int)) (by omega)
          ·
            rw [hT] at p11_5a
            rw [← p11_5a, List.drop_drop] at hch2
            rw [← p11_5a] at hsg hf
            refine wp_skip ?_
            refine T_tn ?_
            refine wp_seq ?_
            refine W_region ?_
            refine L (D_v (R_assign rfl) ?_)
            refine L (D_v (R_assign rfl) ?_)
            refine S_nil ?_
            refine T_tn ?_
            refine wp_seq ?_
            refine wp_seq ?_
            refine W_region ?_
            refine L (D_v (R_assign rfl) ?_)
            refine S_nil ?_
            refine T_tn ?_
            refine wp_block ?_
            refine W_loop (fun mz g W => ∃ (j : Nat) (A : Bool) (B : Bool), mz = own.length - j ∧ g 1 = v ∧ g 2 = i64 id ∧ g 3 = vo ∧ g 13 = i64 (((1 + 786 * i) : Nat) : Int) ∧ g 14 = .pointer (some ⟨aB11_9, 0, none⟩) ∧ g 16 = .bool A ∧ g 17 = .bool B ∧ g 18 = i64 ((j : Nat) : Int) ∧ Ext w W ∧ Blk W aB11_9 (x11_5).l 55 ∧ Ev.okf 0 W x11_5 ∧ (A = true → (x11_5).a.vote ∈ own) ∧ (B = true → (x11_5).b.vote ∈ own)) ⟨0, false, false, rfl, q1, q2, q3, q13, rfl, rfl, rfl, rfl, hE, hB11_9, k11_5, (fun h => by cases h), (fun h => by cases h)⟩ ?_
            rintro mz f15 w15l ⟨j, A, B, hm, q1, q2, q3, q13, q14, q16, q17, q18, hE, hB11_9, k11_5, hA, hB⟩
            refine wp_seq ?_
            refine wp_seq ?_
            refine W_region ?_
            refine L (D_v (R_move q18) ?_)
            refine L (D_v (R_move q3) ?_)
            refine L (D_v (R_len Try.underlying61 rfl (ho.ext hE).1) ?_)
            refine L (D_v (R_lssI rfl rfl) ?_)
            refine S_nil ?_
            refine T_tn ?_
            refine W_if rfl (fun c6 => ?_) (fun c6 => ?_)
            ·
              have lj : j < own.length := by have e := of_decide_eq_true c6; omega
              refine wp_skip ?_
              refine T_tn ?_
              refine wp_seq ?_
              refine wp_block ?_
              refine W_draw mixed (by kernel_rfl) ?_
              refine Q_v (fun w hw => R_move q16) ?_
              refine Q_v (fun w hw => R_move rfl) ?_
              refine Q_g1 rfl rfl (fun hb w hw => R_move q3) ?_
              refine Q_g1 rfl rfl (fun hb w hw => R_move q18) ?_
              refine Q_g1 rfl rfl (fun hb w hw => R_elAddr (i := j) Try.underlying61 Try.sizeOf26 (cgE hb) (cgE hb) (ho.ext (hE.trans hw)).1 (by (try simp only [List.length_take, List.length_drop, List.length_append, List.length_cons, List.length_nil, List.length_replicate, List.length_set, Nm.b_len, be2_len]); omega)) ?_
              refine Q_g1 rfl rfl (fun hb w hw => R_ldL (C := cV) (i := j) (y := ((own).getD (j) Vt.zero)) Try.isAgg26 Try.sizeOf26 (cgE hb) (ho.ext (hE.trans hw)) (getD_some (d := Vt.zero) (by (try simp only [List.length_take, List.length_drop, List.length_append, List.length_cons, List.length_nil, List.length_replicate, List.length_set, Nm.b_len, be2_len]); omega))) ?_
              refine Q_g1 rfl rfl (fun hb w hw => R_fieldAddr Try.runUnderlying55 rfl Try.sizeOf53 q14) ?_
              refine Q_g1 rfl rfl (fun hb w hw => R_fieldAddr Try.runUnderlying53 rfl Try.sizeOf26 (cgE hb)) ?_
              refine Q_g1 rfl rfl (fun hb w hw => R_loadA (c := ((x11_5).a.vote).l) Try.isAgg26 Try.sizeOf26 (hB11_9.ext hw) (cgE hb) rfl rfl) ?_
              refine Q_g1 rfl rfl (fun hb w hw => R_eqlA Try.eqGuardType26 (eq26 (((own).getD (j) Vt.zero)) ((x11_5).a.vote) _) (cgE hb) (cgE hb)) ?_
              refine Q_v (fun w hw => R_pickO rfl rfl rfl) ?_
              refine Q_v (fun w hw => R_move q17) ?_
              refine Q_v (fun w hw => R_move rfl) ?_
              refine Q_g1 rfl rfl (fun hb w hw => R_move q3) ?_
              refine Q_g1 rfl rfl (fun hb w hw => R_move q18) ?_
              refine Q_g1 rfl rfl (fun hb w hw => R_elAddr (i := j) Try.underlying61 Try.sizeOf26 (cgE hb) (cgE hb) (ho.ext (hE.trans hw)).1 (by (try simp only [List.length_take, List.length_drop, List.length_append, List.length_cons, List.length_nil, List.length_replicate, List.length_set, Nm.b_len, be2_len]); omega)) ?_
              refine Q_g1 rfl rfl (fun hb w hw => R_ldL (C := cV) (i := j) (y := ((own).getD (j) Vt.zero)) Try.isAgg26 Try.sizeOf26 (cgE hb) (ho.ext (hE.trans hw)) (getD_some (d := Vt.zero) (by (try simp only [List.length_take, List.length_drop, List.length_append, List.length_cons, List.length_nil, List.length_replicate, List.length_set, Nm.b_len, be2_len]); omega))) ?_
              refine Q_g1 rfl rfl (fun hb w hw => R_fieldAddr Try.runUnderlying55 rfl Try.sizeOf53 q14) ?_
              refine Q_g1 rfl rfl (fun hb w hw => R_fieldAddr Try.runUnderlying53 rfl Try.sizeOf26 (cgE hb)) ?_
              refine Q_g1 rfl rfl (fun hb w hw => R_loadA (c := ((x11_5).b.vote).l) Try.isAgg26 Try.sizeOf26 (hB11_9.ext hw) (cgE hb) rfl rfl) ?_
              refine Q_g1 rfl rfl (fun hb w hw => R_eqlA Try.eqGuardType26 (eq26 (((own).getD (j) Vt.zero)) ((x11_5).b.vote) _) (cgE hb) (cgE hb)) ?_
              refine Q_v (fun w hw => R_pickO rfl rfl rfl) ?_
              refine Q_v (fun w hw => R_assign rfl) ?_
              refine Q_v (fun w hw => R_assign rfl) ?_
              refine Q_nil (fun w17_99 e17_99 => ?_)
              replace hE := hE.trans e17_99
              replace hB11_9 := hB11_9.ext e17_99
              replace k11_5 := k11_5.fb (Fb.ext e17_99)
              refine T_bn ?_
              refine T_tn ?_
              refine W_region ?_
              refine L (D_v (R_move q18) ?_)
              refine L (D_v (R_addN (m := j) (j := 1) rfl rfl (by (try simp only [List.length_take, List.length_drop, List.length_append, List.length_cons, List.length_nil, List.length_replicate, List.length_set, Nm.b_len, be2_len]); omega)) ?_)
              refine L (D_v (R_assign rfl) ?_)
              refine S_nil ?_
              refine T_tn ?_
              refine ⟨_, _, ?_, rfl, j + 1, _, _, rfl, q1, q2, q3, q13, q14, rfl, rfl, rfl, hE, hB11_9, k11_5, ?_, ?_⟩
              all_goals first | omega | (intro h; exact ((Bool.or_eq_true_iff).1 h).elim (fun h1 => by first | exact hA h1 | exact hB h1) (fun h1 => by rw [← of_decide_eq_true h1, List.getD_eq_getElem?_getD, List.getElem?_eq_getElem lj]; exact List.getElem_mem lj))
            ·
              have lj : ¬ j < own.length := by have e := of_decide_eq_false c6; omega
              refine wp_exit ?_
              refine T_te ?_
              refine T_te ?_
              refine T_be ?_
              refine T_tn ?_
              refine wp_seq ?_
              refine W_region ?_
              refine L (D_v (R_move q16) ?_)
              refine L (D_v (R_not rfl) ?_)
              refine L (D_v (R_move rfl) ?_)
              refine L (D_g1 rfl rfl (fun hb => R_move q17) ?_)
              refine L (D_g1 rfl rfl (fun hb => R_not (cgE hb)) ?_)
              refine L (D_v (R_pickO rfl rfl rfl) ?_)
              refine S_nil ?_
              refine T_tn ?_
              refine W_if rfl (fun c7 => ?_) (fun c7 => ?_)
              ·
                refine wp_seq ?_
                refine W_region ?_
                refine L (D_call (R_callF Try.call44 rfl rfl) (c44 _) (fun w18_0 e18_0 => ?_))
                replace hE := hE.trans e18_0
                replace k11_5 := k11_5.fb (Fb.ext e18_0)
                refine L (D_v (R_assign rfl) ?_)
                refine S_nil ?_
                refine T_tn ?_
                refine wp_ret ?_
                refine T_br ?_
                refine T_tr ?_
                refine T_tr ?_
                refine T_br ?_
                refine T_tr ?_
                refine ret1 (v := .bool _) rfl rfl ⟨congrArg (fun b => Ending.returned (Value.bool b)) ?_, hE⟩
                rfl
              ·
                exfalso
                have hab : A = true ∧ B = true := or_nots c7
                exact own_clash hno (hA hab.1) (hB hab.2) (flt_parts hf).1
        ·
          exfalso
          have hk0 : (b.getD 0 0).toNat - i = 0 := by have e := of_decide_eq_false c4; omega
          rw [hk0] at hch
          have hm : (chk keys b).1 = gu := by rw [← hch]; rfl
          rw [hm, hid] at hx2
          exact absurd hx2.2 (by decide)
end Go.Proofs.Yteeopgpgbdhmhaa
