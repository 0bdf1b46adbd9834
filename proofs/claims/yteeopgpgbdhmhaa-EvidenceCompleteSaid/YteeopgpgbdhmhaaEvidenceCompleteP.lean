/- For every input the law EvidenceComplete returns true, and each argument reads behind the call as it read before. Conditions: none. -/
import Derived.Test.YteeopgpgbdhmhaaRows
import Derived.WalkKit
import Derived.ProofKit
import Derived.OpenShut
import Derived.SizedLaws
import Derived.Test.YteeopgpgbdhmhaaNin5
namespace Go.Proofs.Yteeopgpgbdhmhaa
open Go.RowKit
set_option linter.unusedVariables false
set_option linter.unusedSimpArgs false
attribute [local irreducible] wpList wpO H wpQuiet wpStill Code.wp Exit.then Exit.inBlock bodyPost Code.rounds Calls valid sameKey conflict lessV hless num between
set_option maxRecDepth 4000 in
set_option maxHeartbeats 8000000 in
theorem c20 (vk : Value) (keys : List Nm) (v : Value) (xs : List Sg) (w : World) (hk : Ls cN w.heap.size w vk keys) (h1 : Ls cS w.heap.size w v xs) : Calls Try.prog 20 [vk, v].toArray w (Ret w (.bool true)) := by
  refine enter Try.func20 Try.ntmps20 rfl rfl ?_
  have hE := Ext.refl w
  have hcut1 := cut60_ls h1
  obtain ⟨X1, hX1⟩ : ∃ X, X = xs.take 60 := ⟨_, rfl⟩
  rw [← hX1] at hcut1
  have hXl1 : X1.length ≤ 60 := by rw [hX1, List.length_take]; omega
  refine wp_seq ?_
  refine W_region ?_
  refine L (D_v (R_assign rfl) ?_)
  refine S_nil ?_
  refine T_tn ?_
  refine wp_seq ?_
  refine W_region ?_
  refine L (D_v (R_move rfl) ?_)
  refine L (D_call (R_callF Try.call70 rfl rfl) (c70 v (xs) _ ((h1.ext hE).up2 (Nat.le_trans (Nat.le_refl _) hE.size))) (fun w2_1 e2_1 => ?_))
  replace hE := hE.trans e2_1
  refine L (D_v (R_assign rfl) ?_)
  refine S_nil ?_
  refine T_tn ?_
  refine wp_seq ?_
  refine W_region ?_
  refine L (D_v (R_assign rfl) ?_)
  refine S_nil ?_
  refine T_tn ?_
  refine wp_seq ?_
  refine wp_seq ?_
  refine W_region ?_
  refine L (D_v (R_assign rfl) ?_)
  refine S_nil ?_
  refine T_tn ?_
  refine wp_block ?_
  refine W_loop (fun mz g W => ∃ (i : Nat) (m : Int), mz = X1.length - i ∧ g 0 = vk ∧ g 1 = (cut60 v (xs).length) ∧ g 5 = i64 m ∧ g 6 = i64 ((i : Nat) : Int) ∧ Ext w W ∧ i ≤ X1.length ∧ (0 ≤ m ∧ m < 1024) ∧ (∀ b : Int, hasB m b = true ↔ Pq keys X1 i b)) ⟨0, 0, rfl, rfl, rfl, rfl, rfl, hE, (Nat.zero_le _), (by decide), (fun b => by rw [hasB_zero]; exact ⟨fun h => (by cases h), fun h => absurd h Pq_zero⟩)⟩ ?_
  rintro mz f5 w5l ⟨i, m, hm, q0, q1, q5, q6, hE, hi, hm0, hq⟩
  refine wp_seq ?_
  refine wp_seq ?_
  refine W_region ?_
  refine L (D_v (R_move q6) ?_)
  refine L (D_v (R_move q1) ?_)
  refine L (D_v (R_len Try.underlying46 rfl (hcut1.ext hE).1) ?_)
  refine L (D_v (R_lssI rfl rfl) ?_)
  refine S_nil ?_
  refine T_tn ?_
  refine W_if rfl (fun c1 => ?_) (fun c1 => ?_)
  ·
    have lk : i < X1.length := by have h9 := of_decide_eq_true c1; omega
    have kx := ((hcut1.ext hE)).get (i := i) (getD_some (d := Sg.zero) lk)
    refine wp_skip ?_
    refine T_tn ?_
    refine wp_seq ?_
    refine wp_block ?_
    refine wp_seq ?_
    refine W_region ?_
    refine L (D_v (R_move q1) ?_)
    refine L (D_v (R_move q6) ?_)
    refine L (D_v (R_elAddr (i := i) Try.underlying46 Try.sizeOf53 rfl rfl (hcut1.ext hE).1 (by (try simp only [List.length_take, List.length_drop, List.length_append, List.length_cons, List.length_nil, List.length_replicate, List.length_set, Nm.b_len, be2_len]); omega)) ?_)
    refine L (D_v (R_fieldEl (k := i * 23) Try.runUnderlying53 rfl Try.sizeOf26 (hcut1.ext hE).1 (lel_ltz (C := cS) (s := 23) rfl (by decide) (getD_some (d := Sg.zero) (by (try simp only [List.length_take, List.length_drop, List.length_append, List.length_cons, List.length_nil, List.length_replicate, List.length_set, Nm.b_len, be2_len]); omega))) rfl) ?_)
    refine L (D_v (R_fieldEl (k := i * 23 + 0) Try.runUnderlying26 rfl Try.sizeOf3 (hcut1.ext hE).1 (lel_lt0 (C := cS) (s := 23) rfl 0 (by decide) (getD_some (d := Sg.zero) (by (try simp only [List.length_take, List.length_drop, List.length_append, List.length_cons, List.length_nil, List.length_replicate, List.length_set, Nm.b_len, be2_len]); omega))) rfl) ?_)
    refine L (D_v (R_ldC (C := cS) (i := i) (k := 4) (y := ((X1).getD (i) Sg.zero)) (u := i64 (((X1).getD (i) Sg.zero)).vote.signer) Try.isAgg3 rfl (hcut1.ext hE) (getD_some (d := Sg.zero) (by (try simp only [List.length_take, List.length_drop, List.length_append, List.length_cons, List.length_nil, List.length_replicate, List.length_set, Nm.b_len, be2_len]); omega)) (by decide) rfl) ?_)
    refine L (D_v (R_assign rfl) ?_)
    refine S_nil ?_
    refine T_tn ?_
    refine wp_seq ?_
    refine wp_seq ?_
    refine W_draw mixed (by kernel_rfl) ?_
    refine Q_v (fun w hw => R_move rfl) ?_
    refine Q_v (fun w hw => R_lssI rfl rfl) ?_
    refine Q_v (fun w hw => R_move rfl) ?_
    refine Q_g1 rfl rfl (fun hb w hw => R_move rfl) ?_
    refine Q_g1 rfl rfl (fun hb w hw => R_move q0) ?_
    refine Q_g1 rfl rfl (fun hb w hw => R_len Try.underlying45 (cgE hb) (hk.ext (hE.trans hw)).1) ?_
    refine Q_g1 rfl rfl (fun hb w hw => R_geqI (cgE hb) (cgE hb)) ?_
    refine Q_v (fun w hw => R_pickO rfl rfl rfl) ?_
    refine Q_v (fun w hw => R_move rfl) ?_
    refine Q_g1 rfl rfl (fun hb w hw => R_move rfl) ?_
    refine Q_g1 rfl rfl (fun hb w hw => R_geqI (cgE hb) rfl) ?_
    refine Q_v (fun w hw => R_pickO rfl rfl rfl) ?_
    refine Q_v (fun w hw => R_move rfl) ?_
    refine Q_g1 rfl rfl (fun hb w hw => R_move q0) ?_
    refine Q_g1 rfl rfl (fun hb w hw => R_move rfl) ?_
    refine Q_g1 rfl rfl (fun hb w hw => R_elI (i := (((X1).getD (i) Sg.zero)).vote.signer) Try.underlying45 Try.sizeOf24 (cgE hb) (cgE hb) (hk.ext (hE.trans hw)).1 (idx_lo hb) (idx_hi hb)) ?_
    refine Q_g1 rfl rfl (fun hb w hw => R_ldL (C := cN) (i := ((((X1).getD (i) Sg.zero)).vote.signer).toNat) (y := ((keys).getD (((((X1).getD (i) Sg.zero)).vote.signer).toNat) Nm.zero)) Try.isAgg24 Try.sizeOf24 (cgE hb) (hk.ext (hE.trans hw)) (getD_some (d := Nm.zero) (idx_hi hb))) ?_
    refine Q_g1 rfl rfl (fun hb w hw => R_move q1) ?_
    refine Q_g1 rfl rfl (fun hb w hw => R_move q6) ?_
    refine Q_g1 rfl rfl (fun hb w hw => R_elAddr (i := i) Try.underlying46 Try.sizeOf53 (cgE hb) (cgE hb) (hcut1.ext (hE.trans hw)).1 (by first | ((try simp only [List.length_take, List.length_drop, List.length_append, List.length_cons, List.length_nil]); omega) | (simp at hb; omega))) ?_
    refine Q_g1 rfl rfl (fun hb w hw => R_ldL (C := cS) (i := i) (y := ((X1).getD (i) Sg.zero)) Try.isAgg53 Try.sizeOf53 (cgE hb) (hcut1.ext (hE.trans hw)) (getD_some (d := Sg.zero) (by first | ((try simp only [List.length_take, List.length_drop, List.length_append, List.length_cons, List.length_nil]); omega) | (simp at hb; omega)))) ?_
    refine Q_gc1 rfl rfl (fun hb w hw => R_callF Try.call75 (mapv2 (cgE hb) (cgE hb)) rfl) (fun hb w hw => c75 (((keys).getD (((((X1).getD (i) Sg.zero)).vote.signer).toNat) Nm.zero)) (((X1).getD (i) Sg.zero)) _ ((kx.fb (Fb.ext hw)).up (Nat.le_trans (Nat.le_refl _) (hE.trans hw).size))) ?_
    refine Q_g1 rfl rfl (fun hb w hw => R_not (cgE hb)) ?_
    refine Q_v (fun w hw => R_pickO rfl rfl rfl) ?_
    refine Q_nil (fun w8_99 e8_99 => ?_)
    replace hE := hE.trans e8_99
    replace kx := kx.fb (Fb.ext e8_99)
    refine T_tn ?_
    refine W_if rfl (fun c2 => ?_) (fun c2 => ?_)
    ·
      have hvk : verK keys (X1.getD i Sg.zero).p = false := verK_not c2
      refine wp_exit ?_
      refine T_te ?_
      refine T_be ?_
      refine T_tn ?_
      refine W_region ?_
      refine L (D_v (R_move q6) ?_)
      refine L (D_v (R_addN (m := i) (j := 1) rfl rfl (by (try simp only [List.length_take, List.length_drop, List.length_append, List.length_cons, List.length_nil, List.length_replicate, List.length_set, Nm.b_len, be2_len]); omega)) ?_)
      refine L (D_v (R_assign rfl) ?_)
      refine S_nil ?_
      refine T_tn ?_
      refine ⟨_, _, ?_, rfl, i + 1, _, rfl, q0, q1, q5, rfl, hE, ?_, ?_, ?_⟩
      all_goals first | omega | exact hm0 | exact hm1 | exact fun b => (hq b).trans (Pq_skip hvk).symm | exact fun b => (hqi b).trans Pqi_all
    ·
      have hvk : verK keys (X1.getD i Sg.zero).p = true := verK_of c2
      have hsr := valid_signer (verK_valid hvk)
      have hkp := verK_parts hvk
      have hsr2 : 0 ≤ (X1.getD i Sg.zero).vote.signer ∧ (X1.getD i Sg.zero).vote.signer ≤ 9 := hsr
      refine wp_skip ?_
      refine T_tn ?_
      refine wp_seq ?_
      refine W_region ?_
      refine L (D_v (R_assign rfl) ?_)
      refine S_nil ?_
      refine T_tn ?_
      refine wp_block ?_
      refine W_loop (fun mz g W => ∃ (k : Nat) (mj : Int), mz = i - k ∧ g 0 = vk ∧ g 1 = (cut60 v (xs).length) ∧ g 5 = i64 mj ∧ g 6 = i64 ((i : Nat) : Int) ∧ g 7 = i64 (((X1).getD (i) Sg.zero)).vote.signer ∧ g 8 = i64 ((k : Nat) : Int) ∧ Ext w W ∧ Sg.okf w.heap.size W ((X1).getD (i) Sg.zero) ∧ k ≤ i ∧ (0 ≤ mj ∧ mj < 1024) ∧ (∀ b : Int, hasB mj b = true ↔ Pqi keys X1 i k b)) ⟨0, m, rfl, q0, q1, q5, q6, rfl, rfl, hE, kx, (Nat.zero_le _), hm0, (fun b => (hq b).trans Pqi_zero.symm)⟩ ?_
      rintro mz f10 w10l ⟨k, mj, hm, q0, q1, q5, q6, q7, q8, hE, kx, hki, hm1, hqi⟩
      refine wp_seq ?_
      refine wp_seq ?_
      refine W_region ?_
      refine L (D_v (R_move q8) ?_)
      refine L (D_v (R_move q6) ?_)
      refine L (D_v (R_lssI rfl rfl) ?_)
      refine S_nil ?_
      refine T_tn ?_
      refine W_if rfl (fun c3 => ?_) (fun c3 => ?_)
      ·
        have lj : k < i := by have h9 := of_decide_eq_true c3; omega
        have lkk : k < X1.length := by omega
        have ky := ((hcut1.ext hE)).get (i := k) (getD_some (d := Sg.zero) lkk)
        refine wp_skip ?_
        refine T_tn ?_
        refine wp_seq ?_
        refine wp_block ?_
        refine wp_seq ?_
        refine W_draw mixed (by kernel_rfl) ?_
        refine Q_v (fun w hw => R_move q1) ?_
        refine Q_v (fun w hw => R_move q6) ?_
        refine Q_v (fun w hw => R_elAddr (i := i) Try.underlying46 Try.sizeOf53 rfl rfl (hcut1.ext (hE.trans hw)).1 (by (try simp only [List.length_take, List.length_drop, List.length_append, List.length_cons, List.length_nil, List.length_replicate, List.length_set, Nm.b_len, be2_len]); omega)) ?_
        refine Q_v (fun w hw => R_fieldEl (k := i * 23) Try.runUnderlying53 rfl Try.sizeOf26 (hcut1.ext (hE.trans hw)).1 (lel_ltz (C := cS) (s := 23) rfl (by decide) (getD_some (d := Sg.zero) (by (try simp only [List.length_take, List.length_drop, List.length_append, List.length_cons, List.length_nil, List.length_replicate, List.length_set, Nm.b_len, be2_len]); omega))) rfl) ?_
        refine Q_v (fun w hw => R_ldP (C := cS) (i := i) (k := 0) (y := ((X1).getD (i) Sg.zero)) (c := ((((X1).getD (i) Sg.zero)).vote).l) Try.isAgg26 Try.sizeOf26 rfl (hcut1.ext (hE.trans hw)) (getD_some (d := Sg.zero) (by (try simp only [List.length_take, List.length_drop, List.length_append, List.length_cons, List.length_nil, List.length_replicate, List.length_set, Nm.b_len, be2_len]); omega)) (by decide) (by decide) rfl) ?_
        refine Q_v (fun w hw => R_move q1) ?_
        refine Q_v (fun w hw => R_move q8) ?_
        refine Q_v (fun w hw => R_elAddr (i := k) Try.underlying46 Try.sizeOf53 rfl rfl (hcut1.ext (hE.trans hw)).1 (by (try simp only [List.length_take, List.length_drop, List.length_append, List.length_cons, List.length_nil, List.length_replicate, List.length_set, Nm.b_len, be2_len]); omega)) ?_
        refine Q_v (fun w hw => R_fieldEl (k := k * 23) Try.runUnderlying53 rfl Try.sizeOf26 (hcut1.ext (hE.trans hw)).1 (lel_ltz (C := cS) (s := 23) rfl (by decide) (getD_some (d := Sg.zero) (by (try simp only [List.length_take, List.length_drop, List.length_append, List.length_cons, List.length_nil, List.length_replicate, List.length_set, Nm.b_len, be2_len]); omega))) rfl) ?_
        refine Q_v (fun w hw => R_ldP (C := cS) (i := k) (k := 0) (y := ((X1).getD (k) Sg.zero)) (c := ((((X1).getD (k) Sg.zero)).vote).l) Try.isAgg26 Try.sizeOf26 rfl (hcut1.ext (hE.trans hw)) (getD_some (d := Sg.zero) (by (try simp only [List.length_take, List.length_drop, List.length_append, List.length_cons, List.length_nil, List.length_replicate, List.length_set, Nm.b_len, be2_len]); omega)) (by decide) (by decide) rfl) ?_
        refine Q_call (fun w hw => R_callF Try.call31 rfl rfl) (fun w hw => c31 ((((X1).getD (i) Sg.zero)).vote) ((((X1).getD (k) Sg.zero)).vote) _ ) ?_
        refine Q_v (fun w hw => R_move rfl) ?_
        refine Q_g1 rfl rfl (fun hb w hw => R_move q0) ?_
        refine Q_g1 rfl rfl (fun hb w hw => R_move q7) ?_
        refine Q_g1 rfl rfl (fun hb w hw => R_elI (i := (((X1).getD (i) Sg.zero)).vote.signer) Try.underlying45 Try.sizeOf24 (cgE hb) (cgE hb) (hk.ext (hE.trans hw)).1 hsr2.1 (by have h7 : (X1.getD i Sg.zero).vote.signer < ((keys.length : Nat) : Int) := hkp.2.1; have h8 := hsr2.1; omega)) ?_
        refine Q_g1 rfl rfl (fun hb w hw => R_ldL (C := cN) (i := ((((X1).getD (i) Sg.zero)).vote.signer).toNat) (y := ((keys).getD (((((X1).getD (i) Sg.zero)).vote.signer).toNat) Nm.zero)) Try.isAgg24 Try.sizeOf24 (cgE hb) (hk.ext (hE.trans hw)) (getD_some (d := Nm.zero) (by have h7 : (X1.getD i Sg.zero).vote.signer < ((keys.length : Nat) : Int) := hkp.2.1; have h8 := hsr2.1; omega))) ?_
        refine Q_g1 rfl rfl (fun hb w hw => R_move q1) ?_
        refine Q_g1 rfl rfl (fun hb w hw => R_move q8) ?_
        refine Q_g1 rfl rfl (fun hb w hw => R_elAddr (i := k) Try.underlying46 Try.sizeOf53 (cgE hb) (cgE hb) (hcut1.ext (hE.trans hw)).1 (by first | ((try simp only [List.length_take, List.length_drop, List.length_append, List.length_cons, List.length_nil]); omega) | (simp at hb; omega))) ?_
        refine Q_g1 rfl rfl (fun hb w hw => R_ldL (C := cS) (i := k) (y := ((X1).getD (k) Sg.zero)) Try.isAgg53 Try.sizeOf53 (cgE hb) (hcut1.ext (hE.trans hw)) (getD_some (d := Sg.zero) (by first | ((try simp only [List.length_take, List.length_drop, List.length_append, List.length_cons, List.length_nil]); omega) | (simp at hb; omega)))) ?_
        refine Q_gc1 rfl rfl (fun hb w hw => R_callF Try.call75 (mapv2 (cgE hb) (cgE hb)) rfl) (fun hb w hw => c75 (((keys).getD (((((X1).getD (i) Sg.zero)).vote.signer).toNat) Nm.zero)) (((X1).getD (k) Sg.zero)) _ ((ky.fb (Fb.ext hw)).up (Nat.le_trans (Nat.le_refl _) (hE.trans hw).size))) ?_
        refine Q_v (fun w hw => R_pickA rfl rfl rfl) ?_
        refine Q_nil (fun w12_99 e12_99 => ?_)
        replace hE := hE.trans e12_99
        replace kx := kx.fb (Fb.ext e12_99)
        replace ky := ky.fb (Fb.ext e12_99)
        refine T_tn ?_
        refine W_if rfl (fun c4 => ?_) (fun c4 => ?_)
        ·
          have hg2 := or_bit hm1 hsr2
          have hq2 := Pqi_yes lk lkk hm1 hqi hvk c4
          refine W_region ?_
          refine L (D_v (R_move q5) ?_)
          refine L (D_v (R_move q7) ?_)
          refine L (D_v (R_cast (v' := .int .u64 (((X1).getD (i) Sg.zero)).vote.signer) (R_conv Try.runUnderlying3 Try.runUnderlying83 rfl) (congrArg (Value.int .u64) (by have hbp := hsr2; rw [IntKind.wrap_u64]; omega))) ?_)
          refine L (D_v (R_bit (s := (((X1).getD (i) Sg.zero)).vote.signer) rfl rfl hsr2) ?_)
          refine L (D_v (R_orI rfl rfl) ?_)
          refine L (D_v (R_assign rfl) ?_)
          refine S_nil ?_
          refine T_bn ?_
          refine T_tn ?_
          refine W_region ?_
          refine L (D_v (R_move q8) ?_)
          refine L (D_v (R_addN (m := k) (j := 1) rfl rfl (by (try simp only [List.length_take, List.length_drop, List.length_append, List.length_cons, List.length_nil, List.length_replicate, List.length_set, Nm.b_len, be2_len]); omega)) ?_)
          refine L (D_v (R_assign rfl) ?_)
          refine S_nil ?_
          refine T_tn ?_
          refine ⟨_, _, ?_, rfl, k + 1, _, rfl, q0, q1, rfl, q6, q7, rfl, hE, kx, ?_, ?_, ?_⟩
          all_goals first | omega | exact hm1 | exact ⟨Int.le_of_lt hg2.1, hg2.2⟩ | exact hq2
        ·
          have hq2 : ∀ b : Int, hasB mj b = true ↔ Pqi keys X1 i (k + 1) b := fun b => (hqi b).trans (Pqi_no hvk c4).symm
          refine wp_skip ?_
          refine T_bn ?_
          refine T_tn ?_
          refine W_region ?_
          refine L (D_v (R_move q8) ?_)
          refine L (D_v (R_addN (m := k) (j := 1) rfl rfl (by (try simp only [List.length_take, List.length_drop, List.length_append, List.length_cons, List.length_nil, List.length_replicate, List.length_set, Nm.b_len, be2_len]); omega)) ?_)
          refine L (D_v (R_assign rfl) ?_)
          refine S_nil ?_
          refine T_tn ?_
          refine ⟨_, _, ?_, rfl, k + 1, _, rfl, q0, q1, q5, q6, q7, rfl, hE, kx, ?_, ?_, ?_⟩
          all_goals first | omega | exact hm1 | exact ⟨Int.le_of_lt hg2.1, hg2.2⟩ | exact hq2
      ·
        obtain rfl : i = k := by have h9 := of_decide_eq_false c3; omega
        refine wp_exit ?_
        refine T_te ?_
        refine T_te ?_
        refine T_be ?_
        refine T_bn ?_
        refine T_tn ?_
        refine W_region ?_
        refine L (D_v (R_move q6) ?_)
        refine L (D_v (R_addN (m := i) (j := 1) rfl rfl (by (try simp only [List.length_take, List.length_drop, List.length_append, List.length_cons, List.length_nil, List.length_replicate, List.length_set, Nm.b_len, be2_len]); omega)) ?_)
        refine L (D_v (R_assign rfl) ?_)
        refine S_nil ?_
        refine T_tn ?_
        refine ⟨_, _, ?_, rfl, i + 1, _, rfl, q0, q1, q5, rfl, hE, ?_, ?_, ?_⟩
        all_goals first | omega | exact hm0 | exact hm1 | exact fun b => (hq b).trans (Pq_skip hvk).symm | exact fun b => (hqi b).trans Pqi_all
  ·
    obtain rfl : i = X1.length := by have h9 := of_decide_eq_false c1; omega
    have hgm := Pq_end hm0 hq
    refine wp_exit ?_
    refine T_te ?_
    refine T_te ?_
    refine T_be ?_
    refine T_tn ?_
    refine wp_seq ?_
    refine W_region ?_
    refine L (D_v (R_move q0) ?_)
    refine L (D_v (R_move q1) ?_)
    refine L (D_call (R_callF Try.call71 rfl rfl) (c71 vk (keys) w.heap.size (cut60 v (xs).length) (X1) _ ((hk.ext hE).lev fun _ _ _ => trivial) (Nat.le_trans (Nat.le_refl _) hE.size) (by (try simp only [List.length_take, List.length_drop, List.length_append, List.length_cons, List.length_nil, List.length_replicate, List.length_set, Nm.b_len, be2_len]); omega) (hcut1.ext hE)) (fun w7_2 e7_2 => ?_))
    replace hE := hE.trans e7_2
    refine L (D_v (R_move q5) ?_)
    refine L (D_v (R_eqlI rfl rfl) ?_)
    refine L (D_v (R_move rfl) ?_)
    refine L (D_gc1 rfl rfl (fun hb => R_callF Try.call74 rfl rfl) (fun hb => c74 _) (fun w7_6 e7_6 => ?_))
    replace hE := hE.trans e7_6
    refine L (D_v (R_pickA rfl rfl rfl) ?_)
    refine L (D_v (R_assign rfl) ?_)
    refine S_nil ?_
    refine T_tn ?_
    refine wp_ret ?_
    refine ret1 (v := .bool _) rfl rfl ⟨congrArg (fun b => Ending.returned (Value.bool b)) ?_, hE⟩
    rw [hgm]; simp
end Go.Proofs.Yteeopgpgbdhmhaa
namespace Go.Proofs.Yteeopgpgbdhmhaa.evidenceComplete
open Go.ChangeShapes Go.WideShapes Go.ChangeAt Go.RowKit
set_option linter.unusedVariables false
set_option maxRecDepth 100000 in
theorem lifted (os : Os) (started : os.Started) (H : Type) (enc : TypeId × Value → H) :
    ReturnsInHanded {} Try.checked os 20 .any (Rows.evidenceCompleteSpec.pre6 enc Try.prog Try.f20 Rows.evidenceCompleteRow.domain false) (Rows.evidenceCompleteSpec.post enc Try.prog Try.f20 false true false false) := by
  refine returnsInHanded_of_change (C := Try.checked) own started (by kernel_rfl) Try.func20
    (ChangeSpec.witness6 (enc := enc) (C := Try.checked) false ⟨#[], #[.slice none 0 0, .slice none 0 0], []⟩ 8 (by kernel_rfl) (by kernel_rfl) (by kernel_rfl) (by kernel_rfl)) ?_
  intro W base args ds gs before hval0 hW hcnd _
  have hval : ∀ (j : Nat) t v, Try.f20.params[j]? = some t → args[j]? = some v → Value.okWide Try.prog W .any base t v := hval0
  have hW' := hW
  obtain ⟨p, q, hA0, hV, rfl, hfz, hnd⟩ := hW
  have hA : DataW.TrodAll enc Try.prog W 0 (fun _ => true) true Try.f20.params.toList args.toList ds p := hA0
  rw [Try.params20] at hA hval
  obtain ⟨v0, vs0, d0, ds0, p0, q0, hargs, rfl, rfl, h0, r0⟩ := trodAll_cons hA
  obtain ⟨v1, vs1, d1, ds1, p1, q1, rfl, rfl, rfl, h1, r1⟩ := trodAll_cons r0
  obtain ⟨rfl, rfl, rfl⟩ := trodAll_nil r1
  obtain rfl : args = #[v0, v1] := by cases args; simp_all
  obtain ⟨rfl, rfl⟩ := trodVars_none hV
  have k0 := h0
  have lt0 : ∀ x ∈ p0, x.block < W.heap.size := by obtain ⟨m, hm⟩ := k0; exact DataW.trod_lt m _ _ _ hm
  have k1 := h1
  have lt1 : ∀ x ∈ p1, x.block < W.heap.size := by obtain ⟨m, hm⟩ := k1; exact DataW.trod_lt m _ _ _ hm
  obtain ⟨a0, f0⟩ := open45 (hval 0 45 v0 rfl rfl) h0
  obtain ⟨a1, f1⟩ := open46 (hval 1 46 v1 rfl rfl) h1
  clear hA0 hval0
  refine (c20 v0 a0 v1 a1 W f0 f1.1).mono fun e W' ⟨he, bel⟩ => ?_
  subst he
  exact ⟨_, rfl, _, _, _, [], _, [], hW', trodAll_mk1 (shut_bool Try.underlying4 _), (trodAll_cons_mk (Below.trod laidOut (by kernel_rfl) (of_decide_eq_true (by kernel_rfl)) k0 bel lt0) (trodAll_cons_mk (Below.trod laidOut (by kernel_rfl) (of_decide_eq_true (by kernel_rfl)) k1 bel lt1) trodAll_mk0)), rfl, bel.frame _, fun h => by cases h⟩
theorem q0 : (Rows.evidenceCompleteRow.wf (OpenSpec.ofChange Rows.evidenceCompleteSpec)) = true := by kernel_rfl
theorem q3 : (Try.f20.params.all (Try.prog.readableRec ·)) = true := by kernel_rfl
theorem q4 : (namedTie Try.prog Rows.evidenceCompleteRow.named Rows.evidenceCompleteSpec.vars) = true := by kernel_rfl
theorem q5 : ((Rows.evidenceCompleteRow.stops == [])) = true := by kernel_rfl
theorem q7 : ((Rows.evidenceCompleteRow.knobs == [])) = true := by kernel_rfl
theorem q9 : ((Rows.evidenceCompleteRow.inPlace == Try.prog.inPlace 20)) = true := by kernel_rfl
theorem q10 : ((Rows.evidenceCompleteRow.unfollowed == Try.prog.unfollowed 20)) = true := by kernel_rfl
theorem q11 : ((Rows.evidenceCompleteRow.recurses == Try.prog.recurses 20)) = true := by kernel_rfl
theorem q12 : ((Rows.evidenceCompleteRow.named == Try.prog.varsNamed 20)) = true := by kernel_rfl
theorem q13 : ((Rows.evidenceCompleteRow.maps == (Try.f20.params.toList ++ Rows.evidenceCompleteSpec.plain.varTypes Try.prog).any (Try.prog.mapsRec ·))) = true := by kernel_rfl
theorem q14 : ((Rows.evidenceCompleteRow.ifaces == (Try.f20.params.toList ++ Rows.evidenceCompleteSpec.plain.varTypes Try.prog).any (Try.prog.ifacesRec ·))) = true := by kernel_rfl
theorem q15 : ((Rows.evidenceCompleteRow.mapsOut == Try.prog.mapsAmong Try.f20.resultTypes.toList)) = true := by kernel_rfl
theorem q16 : ((Rows.evidenceCompleteRow.loops == (Try.f20.params.toList ++ Rows.evidenceCompleteSpec.plain.varTypes Try.prog).any (Try.prog.loopsFrom ·))) = true := by kernel_rfl
theorem q17 : ((Rows.evidenceCompleteRow.wideKeys == (Try.f20.params.toList ++ Rows.evidenceCompleteSpec.plain.varTypes Try.prog ++ Try.f20.resultTypes.toList).any (Try.prog.wideKeysFrom ·))) = true := by kernel_rfl
theorem q18 : (Rows.evidenceCompleteSpec.vars.all (Try.prog.varReadable ·)) = true := by kernel_rfl
theorem q19 : (Try.f20.resultTypes.all (fun t => Try.prog.readableRec t && decide (t < Try.prog.types.size))) = true := by kernel_rfl
theorem q20 : ((Rows.evidenceCompleteRow.ifacesOut == Try.f20.resultTypes.toList.any (Try.prog.ifacesRec ·))) = true := by kernel_rfl
theorem q21 : ((Rows.evidenceCompleteRow.loopsOut == Try.f20.resultTypes.toList.any (Try.prog.loopsFrom ·))) = true := by kernel_rfl
theorem q22 : ((Rows.evidenceCompleteRow.plainKeys == Try.prog.plainKeys)) = true := fact_plainKeys
theorem q23 : (Rows.evidenceCompleteRow.shortTexts.isNone) = true := by kernel_rfl
theorem q26 : ((Rows.evidenceCompleteRow.lifted == Try.prog.liftsFinal)) = true := fact_liftsFinal
theorem q27 : ((Try.prog.make == some Rows.evidenceCompleteRow.make)) = true := fact_make
theorem q28 : ((Rows.evidenceCompleteRow.kinds == (if Rows.evidenceCompleteRow.domain.isEmpty then [] else Try.f20.params.toList.map fun t => match Try.prog.underlying t with | some (.int k) => some k | _ => none))) = true := by kernel_rfl
theorem q29 : ((Rows.evidenceCompleteRow.pinned == Rows.evidenceCompleteRow.pinnedBy)) = true := by kernel_rfl
theorem q30 : ((Rows.evidenceCompleteRow.veiled == (Try.f20.params.toList ++ Rows.evidenceCompleteSpec.plain.varTypes Try.prog ++ Try.f20.resultTypes.toList).any (Try.prog.veiledRec ·))) = true := by kernel_rfl
theorem q31 : (Rows.evidenceCompleteRow.veiledFits Try.prog Try.f20.params.toList (Try.f20.params.toList ++ Rows.evidenceCompleteSpec.plain.varTypes Try.prog ++ Try.f20.resultTypes.toList)) = true := by kernel_rfl
theorem qn : Try.prog.funcNamed Rows.evidenceCompleteRow.func = some 20 := by kernel_rfl
set_option maxRecDepth 100000 in
theorem closed : joinedFacts Try.prog 20 Try.f20 Rows.evidenceCompleteSpec Rows.evidenceCompleteRow = true := joined_of Try.prog 20 Try.f20 Rows.evidenceCompleteSpec Rows.evidenceCompleteRow q0 fact_laidOut fact_mapsRowed q3 q4 q5 fact_stops q7 fact_knobs q9 q10 q11 q12 q13 q14 q15 q16 q17 q18 q19 q20 q21 q22 q23 fact_heard fact_mayEnter q26 q27 q28 q29 q30 q31
theorem over : Rows.evidenceCompleteRow.holds Try.pinned (OpenSpec.ofChange Rows.evidenceCompleteSpec) :=
  OpenClaim.holds_of_wide 20 Try.f20 rfl rfl rfl rfl rfl rfl rfl ⟨rfl, rfl, rfl, rfl, rfl⟩ rfl rfl rfl rfl rfl qn Try.func20 closed
    (of_decide_eq_true (by kernel_rfl)) (by unfold Func.isWrapper; rw [if_neg (by decide +kernel)]; exact ⟨rfl, rfl⟩)
    (fun os started H enc _ => lifted os started H enc)
/-- THE STATEMENT -/
theorem proved : Rows.EvidenceCompleteSaid := over
#print axioms proved
end Go.Proofs.Yteeopgpgbdhmhaa.evidenceComplete
