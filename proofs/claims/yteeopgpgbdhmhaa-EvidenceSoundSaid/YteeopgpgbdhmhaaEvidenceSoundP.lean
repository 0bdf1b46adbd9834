/- For every input the law EvidenceSound returns true, and each argument reads behind the call as it read before. Conditions: none. -/
import Derived.Test.YteeopgpgbdhmhaaRows
import Derived.WalkKit
import Derived.ProofKit
import Derived.OpenShut
import Derived.SizedLaws
import Derived.Test.YteeopgpgbdhmhaaNin5
namespace Go.Proofs.Yteeopgpgbdhmhaa
open Go.RowKit
set_option linter.unusedVariables false
set_option linter.unusedSimpArgs false
attribute [local irreducible] wpList wpO H wpQuiet wpStill Code.wp Exit.then Exit.inBlock bodyPost Code.rounds Calls valid sameKey conflict lessV hless num between
set_option maxRecDepth 4000 in
set_option maxHeartbeats 8000000 in
theorem c21 (vk : Value) (keys : List Nm) (v : Value) (xs : List Sg) (w : World) (hk : Ls cN w.heap.size w vk keys) (h1 : Ls cS w.heap.size w v xs) : Calls Try.prog 21 [vk, v].toArray w (Ret w (.bool true)) := by
  refine enter Try.func21 Try.ntmps21 rfl rfl ?_
  have hE := Ext.refl w
  have hcut1 := cut60_ls h1
  obtain ⟨X1, hX1⟩ : ∃ X, X = xs.take 60 := ⟨_, rfl⟩
  rw [← hX1] at hcut1
  have hXl1 : X1.length ≤ 60 := by rw [hX1, List.length_take]; omega
  refine wp_seq ?_
  refine W_region ?_
  refine L (D_v (R_assign rfl) ?_)
  refine S_nil ?_
  refine T_tn ?_
  refine wp_seq ?_
  refine W_region ?_
  refine L (D_v (R_move rfl) ?_)
  refine L (D_call (R_callF Try.call70 rfl rfl) (c70 v (xs) _ ((h1.ext hE).up2 (Nat.le_trans (Nat.le_refl _) hE.size))) (fun w2_1 e2_1 => ?_))
  replace hE := hE.trans e2_1
  refine L (D_v (R_assign rfl) ?_)
  refine S_nil ?_
  refine T_tn ?_
  refine wp_seq ?_
  refine W_region ?_
  refine L (D_v (R_move rfl) ?_)
  refine L (D_v (R_move rfl) ?_)
  refine L (D_callE (R_callF Try.call73 rfl rfl) (c73 vk (keys) w.heap.size (cut60 v (xs).length) (X1) _ ((hk.ext hE).lev fun _ _ _ => trivial) (Nat.le_trans (Nat.le_refl _) hE.size) (by (try simp only [List.length_take, List.length_drop, List.length_append, List.length_cons, List.length_nil, List.length_replicate, List.length_set, Nm.b_len, be2_len]); omega) (hcut1.ext hE)) (fun v3_2 w3_2 e3_2 p3_2 => ?_))
  obtain ⟨e3_2a, o3_2, pe3_2⟩ := p3_2
  replace o3_2 := o3_2.low hE.size
  replace hE := hE.trans e3_2
  have hel := evs_el pe3_2
  refine L (D_v (R_assign rfl) ?_)
  refine S_nil ?_
  refine T_tn ?_
  refine wp_seq ?_
  refine W_region ?_
  refine L (D_v (R_assign rfl) ?_)
  refine S_nil ?_
  refine T_tn ?_
  refine wp_seq ?_
  refine wp_seq ?_
  refine W_region ?_
  refine L (D_v (R_assign rfl) ?_)
  refine S_nil ?_
  refine T_tn ?_
  refine wp_block ?_
  refine W_loop (fun mz g W => ∃ (i : Nat) (gu : Int), mz = e3_2a.length - i ∧ g 0 = vk ∧ g 1 = (cut60 v (xs).length) ∧ g 5 = v3_2 ∧ g 6 = i64 gu ∧ g 7 = i64 ((i : Nat) : Int) ∧ Ext w W ∧ Ow cE w.heap.size w.heap.size W v3_2 e3_2a ∧ i ≤ e3_2a.length ∧ gu = maskP ((e3_2a.take i).map Ev.p) 0) ⟨0, 0, rfl, rfl, rfl, rfl, rfl, rfl, hE, o3_2, (Nat.zero_le _), rfl⟩ ?_
  rintro mz f6 w6l ⟨i, gu, hm, q0, q1, q5, q6, q7, hE, ov3_2, hi, hgu⟩
  refine wp_seq ?_
  refine wp_seq ?_
  refine W_region ?_
  refine L (D_v (R_move q7) ?_)
  refine L (D_v (R_move q5) ?_)
  refine L (D_v (R_len Try.underlying42 rfl ov3_2.ls.1) ?_)
  refine L (D_v (R_lssI rfl rfl) ?_)
  refine S_nil ?_
  refine T_tn ?_
  refine W_if rfl (fun c1 => ?_) (fun c1 => ?_)
  ·
    have lk : i < e3_2a.length := by have h9 := of_decide_eq_true c1; omega
    have hg := es_get pe3_2 lk
    have ke := (ov3_2.ls).get (i := i) (getD_some (d := Ev.zero) lk)
    refine wp_skip ?_
    refine T_tn ?_
    refine wp_seq ?_
    refine wp_block ?_
    refine wp_seq ?_
    refine W_region ?_
    refine L (D_v (R_move q5) ?_)
    refine L (D_v (R_move q7) ?_)
    refine L (D_v (R_elAddr (i := i) Try.underlying42 Try.sizeOf55 rfl rfl ov3_2.ls.1 (by (try simp only [List.length_take, List.length_drop, List.length_append, List.length_cons, List.length_nil, List.length_replicate, List.length_set, Nm.b_len, be2_len]); omega)) ?_)
    refine L (D_v (R_fieldEl (k := i * 46) Try.runUnderlying55 rfl Try.sizeOf53 ov3_2.ls.1 (lel_ltz (C := cE) (s := 46) rfl (by decide) (getD_some (d := Ev.zero) (by (try simp only [List.length_take, List.length_drop, List.length_append, List.length_cons, List.length_nil, List.length_replicate, List.length_set, Nm.b_len, be2_len]); omega))) rfl) ?_)
    refine L (D_v (R_fieldEl (k := i * 46 + 0) Try.runUnderlying53 rfl Try.sizeOf26 ov3_2.ls.1 (lel_lt0 (C := cE) (s := 46) rfl 0 (by decide) (getD_some (d := Ev.zero) (by (try simp only [List.length_take, List.length_drop, List.length_append, List.length_cons, List.length_nil, List.length_replicate, List.length_set, Nm.b_len, be2_len]); omega))) rfl) ?_)
    refine L (D_v (R_fieldEl (k := i * 46 + 0) Try.runUnderlying26 rfl Try.sizeOf3 ov3_2.ls.1 (lel_lt0 (C := cE) (s := 46) rfl 0 (by decide) (getD_some (d := Ev.zero) (by (try simp only [List.length_take, List.length_drop, List.length_append, List.length_cons, List.length_nil, List.length_replicate, List.length_set, Nm.b_len, be2_len]); omega))) rfl) ?_)
    refine L (D_v (R_ldC (C := cE) (i := i) (k := 4) (y := ((e3_2a).getD (i) Ev.zero)) (u := i64 ((((e3_2a).getD (i) Ev.zero)).a).vote.signer) Try.isAgg3 rfl ov3_2.ls (getD_some (d := Ev.zero) (by (try simp only [List.length_take, List.length_drop, List.length_append, List.length_cons, List.length_nil, List.length_replicate, List.length_set, Nm.b_len, be2_len]); omega)) (by decide) rfl) ?_)
    refine L (D_v (R_assign rfl) ?_)
    refine S_nil ?_
    refine T_tn ?_
    refine wp_seq ?_
    refine wp_seq ?_
    refine W_region ?_
    refine L (D_v (R_move q0) ?_)
    refine L (D_v (R_move q5) ?_)
    refine L (D_v (R_move q7) ?_)
    refine L (D_v (R_elAddr (i := i) Try.underlying42 Try.sizeOf55 rfl rfl ov3_2.ls.1 (by (try simp only [List.length_take, List.length_drop, List.length_append, List.length_cons, List.length_nil, List.length_replicate, List.length_set, Nm.b_len, be2_len]); omega)) ?_)
    refine L (D_v (R_ldL (C := cE) (i := i) (y := ((e3_2a).getD (i) Ev.zero)) Try.isAgg55 Try.sizeOf55 rfl ov3_2.ls (getD_some (d := Ev.zero) (by (try simp only [List.length_take, List.length_drop, List.length_append, List.length_cons, List.length_nil, List.length_replicate, List.length_set, Nm.b_len, be2_len]); omega))) ?_)
    refine L (D_call (R_callF Try.call76 rfl rfl) (ret_b (c76 vk (keys) (((e3_2a).getD (i) Ev.zero)) _ ((hk.ext hE).lev fun _ _ _ => trivial) (ke.up (Nat.le_trans (Nat.le_refl _) hE.size))) hg.1) (fun w9_5 e9_5 => ?_))
    replace hE := hE.trans e9_5
    replace ov3_2 := ov3_2.ext e9_5
    replace ke := ke.fb (Fb.ext e9_5)
    refine L (D_v (R_not rfl) ?_)
    refine L (D_v (R_move rfl) ?_)
    refine L (D_on rfl rfl (D_v (R_move rfl) ?_))
    refine L (D_on rfl rfl (D_v (R_cast (v' := .bool false) (R_lssI rfl rfl) (congrArg Value.bool (decide_eq_false (by have h8 := hg.2.2.2.1; omega)))) ?_))
    refine L (D_v (R_cast (v' := .bool false) (R_pick rfl rfl rfl) rfl) ?_)
    refine L (D_v (R_move rfl) ?_)
    refine L (D_on rfl rfl (D_v (R_move rfl) ?_))
    refine L (D_on rfl rfl (D_v (R_cast (v' := .bool false) (R_geqI rfl rfl) (congrArg Value.bool (decide_eq_false (by have h8 := hg.2.2.2.2; omega)))) ?_))
    refine L (D_v (R_cast (v' := .bool false) (R_pick rfl rfl rfl) rfl) ?_)
    refine L (D_v (R_move rfl) ?_)
    refine L (D_on rfl rfl (D_v (R_move q7) ?_))
    refine L (D_on rfl rfl (D_v (R_gtrI rfl rfl) ?_))
    refine L (D_on rfl rfl (D_v (R_move rfl) ?_))
    refine L (D_g1 rfl rfl (fun hb => R_move rfl) ?_)
    refine L (D_g1 rfl rfl (fun hb => R_move q5) ?_)
    refine L (D_g1 rfl rfl (fun hb => R_move q7) ?_)
    refine L (D_g1 rfl rfl (fun hb => R_subN (m := i) (j := 1) (cgE hb) rfl (by first | ((try simp only [List.length_take, List.length_drop, List.length_append, List.length_cons, List.length_nil]); omega) | (simp at hb; omega)) (by first | ((try simp only [List.length_take, List.length_drop, List.length_append, List.length_cons, List.length_nil]); omega) | (simp at hb; omega))) ?_)
    refine L (D_g1 rfl rfl (fun hb => R_elAddr (i := (i - 1)) Try.underlying42 Try.sizeOf55 (cgE hb) (cgE hb) ov3_2.ls.1 (by first | ((try simp only [List.length_take, List.length_drop, List.length_append, List.length_cons, List.length_nil]); omega) | (simp at hb; omega))) ?_)
    refine L (D_g1 rfl rfl (fun hb => R_fieldEl (k := (i - 1) * 46) Try.runUnderlying55 rfl Try.sizeOf53 ov3_2.ls.1 (lel_ltz (C := cE) (s := 46) rfl (by decide) (getD_some (d := Ev.zero) (by first | ((try simp only [List.length_take, List.length_drop, List.length_append, List.length_cons, List.length_nil]); omega) | (simp at hb; omega)))) (cgE hb)) ?_)
    refine L (D_g1 rfl rfl (fun hb => R_fieldEl (k := (i - 1) * 46 + 0) Try.runUnderlying53 rfl Try.sizeOf26 ov3_2.ls.1 (lel_lt0 (C := cE) (s := 46) rfl 0 (by decide) (getD_some (d := Ev.zero) (by first | ((try simp only [List.length_take, List.length_drop, List.length_append, List.length_cons, List.length_nil]); omega) | (simp at hb; omega)))) (cgE hb)) ?_)
    refine L (D_g1 rfl rfl (fun hb => R_fieldEl (k := (i - 1) * 46 + 0) Try.runUnderlying26 rfl Try.sizeOf3 ov3_2.ls.1 (lel_lt0 (C := cE) (s := 46) rfl 0 (by decide) (getD_some (d := Ev.zero) (by first | ((try simp only [List.length_take, List.length_drop, List.length_append, List.length_cons, List.length_nil]); omega) | (simp at hb; omega)))) (cgE hb)) ?_)
    refine L (D_g1 rfl rfl (fun hb => R_ldC (C := cE) (i := (i - 1)) (k := 4) (y := ((e3_2a).getD ((i - 1)) Ev.zero)) (u := i64 ((((e3_2a).getD ((i - 1)) Ev.zero)).a).vote.signer) Try.isAgg3 (cgE hb) ov3_2.ls (getD_some (d := Ev.zero) (by first | ((try simp only [List.length_take, List.length_drop, List.length_append, List.length_cons, List.length_nil]); omega) | (simp at hb; omega))) (by decide) rfl) ?_)
    refine L (D_g1 rfl rfl (fun hb => R_leqI (cgE hb) (cgE hb)) ?_)
    refine L (D_on rfl rfl (D_v (R_pickA rfl rfl rfl) ?_))
    refine L (D_v (R_pick rfl rfl rfl) ?_)
    refine S_nil ?_
    refine T_tn ?_
    refine W_if rfl (fun c2 => ?_) (fun c2 => ?_)
    ·
      exfalso; revert c2; by_cases h0 : 0 < i
      · have hu := es_up pe3_2 h0 lk
        intro h9; simp only [Bool.and_eq_true, decide_eq_true_eq] at h9; exact hu h9.2
      · have e0 : decide (((i : Nat) : Int) > 0) = false := decide_eq_false (by omega)
        rw [e0]; simp
    ·
      refine wp_skip ?_
      refine T_tn ?_
      refine wp_seq ?_
      refine W_region ?_
      refine L (D_v (R_assign rfl) ?_)
      refine L (D_v (R_assign rfl) ?_)
      refine S_nil ?_
      refine T_tn ?_
      refine wp_seq ?_
      refine wp_seq ?_
      refine W_region ?_
      refine L (D_v (R_assign rfl) ?_)
      refine S_nil ?_
      refine T_tn ?_
      refine wp_block ?_
      refine W_loop (fun mz g W => ∃ (k : Nat) (A : Bool) (B : Bool), mz = X1.length - k ∧ g 0 = vk ∧ g 1 = (cut60 v (xs).length) ∧ g 5 = v3_2 ∧ g 6 = i64 gu ∧ g 7 = i64 ((i : Nat) : Int) ∧ g 8 = i64 ((((e3_2a).getD (i) Ev.zero)).a).vote.signer ∧ g 9 = .bool A ∧ g 10 = .bool B ∧ g 11 = i64 ((k : Nat) : Int) ∧ Ext w W ∧ Ow cE w.heap.size w.heap.size W v3_2 e3_2a ∧ Ev.okf w.heap.size W ((e3_2a).getD (i) Ev.zero) ∧ (∀ q : Nat, q < k → (X1.getD q Sg.zero).p = (e3_2a.getD i Ev.zero).a.p → A = true) ∧ (∀ q : Nat, q < k → (X1.getD q Sg.zero).p = (e3_2a.getD i Ev.zero).b.p → B = true)) ⟨0, false, false, rfl, q0, q1, q5, q6, q7, rfl, rfl, rfl, rfl, hE, ov3_2, ke, (fun q hq => absurd hq (by omega)), (fun q hq => absurd hq (by omega))⟩ ?_
      rintro mz f12 w12l ⟨k, A, B, hm, q0, q1, q5, q6, q7, q8, q9, q10, q11, hE, ov3_2, ke, hA, hB⟩
      refine wp_seq ?_
      refine wp_seq ?_
      refine W_region ?_
      refine L (D_v (R_move q11) ?_)
      refine L (D_v (R_move q1) ?_)
      refine L (D_v (R_len Try.underlying46 rfl (hcut1.ext hE).1) ?_)
      refine L (D_v (R_lssI rfl rfl) ?_)
      refine S_nil ?_
      refine T_tn ?_
      refine W_if rfl (fun c3 => ?_) (fun c3 => ?_)
      ·
        have lj : k < X1.length := by have h9 := of_decide_eq_true c3; omega
        have ky := ((hcut1.ext hE)).get (i := k) (getD_some (d := Sg.zero) lj)
        refine wp_skip ?_
        refine T_tn ?_
        refine wp_seq ?_
        refine wp_block ?_
        refine W_draw mixed (by kernel_rfl) ?_
        refine Q_v (fun w hw => R_move q9) ?_
        refine Q_v (fun w hw => R_move rfl) ?_
        refine Q_g1 rfl rfl (fun hb w hw => R_move q1) ?_
        refine Q_g1 rfl rfl (fun hb w hw => R_move q11) ?_
        refine Q_g1 rfl rfl (fun hb w hw => R_elAddr (i := k) Try.underlying46 Try.sizeOf53 (cgE hb) (cgE hb) (hcut1.ext (hE.trans hw)).1 (by first | ((try simp only [List.length_take, List.length_drop, List.length_append, List.length_cons, List.length_nil]); omega) | (simp at hb; omega))) ?_
        refine Q_g1 rfl rfl (fun hb w hw => R_ldL (C := cS) (i := k) (y := ((X1).getD (k) Sg.zero)) Try.isAgg53 Try.sizeOf53 (cgE hb) (hcut1.ext (hE.trans hw)) (getD_some (d := Sg.zero) (by first | ((try simp only [List.length_take, List.length_drop, List.length_append, List.length_cons, List.length_nil]); omega) | (simp at hb; omega)))) ?_
        refine Q_g1 rfl rfl (fun hb w hw => R_move q5) ?_
        refine Q_g1 rfl rfl (fun hb w hw => R_move q7) ?_
        refine Q_g1 rfl rfl (fun hb w hw => R_elAddr (i := i) Try.underlying42 Try.sizeOf55 (cgE hb) (cgE hb) (ov3_2.ls.ext hw).1 (by first | ((try simp only [List.length_take, List.length_drop, List.length_append, List.length_cons, List.length_nil]); omega) | (simp at hb; omega))) ?_
        refine Q_g1 rfl rfl (fun hb w hw => R_fieldEl (k := i * 46) Try.runUnderlying55 rfl Try.sizeOf53 (ov3_2.ls.ext hw).1 (lel_ltz (C := cE) (s := 46) rfl (by decide) (getD_some (d := Ev.zero) (by first | ((try simp only [List.length_take, List.length_drop, List.length_append, List.length_cons, List.length_nil]); omega) | (simp at hb; omega)))) (cgE hb)) ?_
        refine Q_g1 rfl rfl (fun hb w hw => R_ldP (C := cE) (i := i) (k := 0) (y := ((e3_2a).getD (i) Ev.zero)) (c := ((((e3_2a).getD (i) Ev.zero)).a).l) Try.isAgg53 Try.sizeOf53 (cgE hb) (ov3_2.ls.ext hw) (getD_some (d := Ev.zero) (by first | ((try simp only [List.length_take, List.length_drop, List.length_append, List.length_cons, List.length_nil]); omega) | (simp at hb; omega))) (by decide) (by decide) rfl) ?_
        refine Q_gc1 rfl rfl (fun hb w hw => R_callF Try.call77 (mapv2 (cgE hb) (cgE hb)) rfl) (fun hb w hw => c77 (((X1).getD (k) Sg.zero)) ((((e3_2a).getD (i) Ev.zero)).a) _ ((ky.fb (Fb.ext hw)).up (Nat.le_trans (Nat.le_refl _) (hE.trans hw).size)) (((ke.fb (Fb.ext hw)).1).up (Nat.le_trans (Nat.le_refl _) (hE.trans hw).size))) ?_
        refine Q_v (fun w hw => R_pickO rfl rfl rfl) ?_
        refine Q_v (fun w hw => R_move q10) ?_
        refine Q_v (fun w hw => R_move rfl) ?_
        refine Q_g1 rfl rfl (fun hb w hw => R_move q1) ?_
        refine Q_g1 rfl rfl (fun hb w hw => R_move q11) ?_
        refine Q_g1 rfl rfl (fun hb w hw => R_elAddr (i := k) Try.underlying46 Try.sizeOf53 (cgE hb) (cgE hb) (hcut1.ext (hE.trans hw)).1 (by first | ((try simp only [List.length_take, List.length_drop, List.length_append, List.length_cons, List.length_nil]); omega) | (simp at hb; omega))) ?_
        refine Q_g1 rfl rfl (fun hb w hw => R_ldL (C := cS) (i := k) (y := ((X1).getD (k) Sg.zero)) Try.isAgg53 Try.sizeOf53 (cgE hb) (hcut1.ext (hE.trans hw)) (getD_some (d := Sg.zero) (by first | ((try simp only [List.length_take, List.length_drop, List.length_append, List.length_cons, List.length_nil]); omega) | (simp at hb; omega)))) ?_
        refine Q_g1 rfl rfl (fun hb w hw => R_move q5) ?_
        refine Q_g1 rfl rfl (fun hb w hw => R_move q7) ?_
        refine Q_g1 rfl rfl (fun hb w hw => R_elAddr (i := i) Try.underlying42 Try.sizeOf55 (cgE hb) (cgE hb) (ov3_2.ls.ext hw).1 (by first | ((try simp only [List.length_take, List.length_drop, List.length_append, List.length_cons, List.length_nil]); omega) | (simp at hb; omega))) ?_
        refine Q_g1 rfl rfl (fun hb w hw => R_fieldEl (k := i * 46) Try.runUnderlying55 rfl Try.sizeOf53 (ov3_2.ls.ext hw).1 (lel_ltz (C := cE) (s := 46) rfl (by decide) (getD_some (d := Ev.zero) (by first | ((try simp only [List.length_take, List.length_drop, List.length_append, List.length_cons, List.length_nil]); omega) | (simp at hb; omega)))) (cgE hb)) ?_
        refine Q_g1 rfl rfl (fun hb w hw => R_ldP (C := cE) (i := i) (k := 23) (y := ((e3_2a).getD (i) Ev.zero)) (c := ((((e3_2a).getD (i) Ev.zero)).b).l) Try.isAgg53 Try.sizeOf53 (cgE hb) (ov3_2.ls.ext hw) (getD_some (d := Ev.zero) (by first | ((try simp only [List.length_take, List.length_drop, List.length_append, List.length_cons, List.length_nil]); omega) | (simp at hb; omega))) (by decide) (by decide) rfl) ?_
        refine Q_gc1 rfl rfl (fun hb w hw => R_callF Try.call77 (mapv2 (cgE hb) (cgE hb)) rfl) (fun hb w hw => c77 (((X1).getD (k) Sg.zero)) ((((e3_2a).getD (i) Ev.zero)).b) _ ((ky.fb (Fb.ext hw)).up (Nat.le_trans (Nat.le_refl _) (hE.trans hw).size)) (((ke.fb (Fb.ext hw)).2).up (Nat.le_trans (Nat.le_refl _) (hE.trans hw).size))) ?_
        refine Q_v (fun w hw => R_pickO rfl rfl rfl) ?_
        refine Q_v (fun w hw => R_assign rfl) ?_
        refine Q_v (fun w hw => R_assign rfl) ?_
        refine Q_nil (fun w14_99 e14_99 => ?_)
        replace hE := hE.trans e14_99
        replace ov3_2 := ov3_2.ext e14_99
        replace ke := ke.fb (Fb.ext e14_99)
        replace ky := ky.fb (Fb.ext e14_99)
        refine T_bn ?_
        refine T_tn ?_
        refine W_region ?_
        refine L (D_v (R_move q11) ?_)
        refine L (D_v (R_addN (m := k) (j := 1) rfl rfl (by (try simp only [List.length_take, List.length_drop, List.length_append, List.length_cons, List.length_nil, List.length_replicate, List.length_set, Nm.b_len, be2_len]); omega)) ?_)
        refine L (D_v (R_assign rfl) ?_)
        refine S_nil ?_
        refine T_tn ?_
        refine ⟨_, _, ?_, rfl, k + 1, _, _, rfl, q0, q1, q5, q6, q7, q8, rfl, rfl, rfl, hE, ov3_2, ke, ?_, ?_⟩
        all_goals first | omega | exact (fun q hq h1 => (Nat.lt_succ_iff_lt_or_eq.1 hq).elim (fun h3 => by rw [hA q h3 h1]; rfl) (fun h3 => by subst h3; rw [h1, sameS_refl]; simp)) | exact (fun q hq h1 => (Nat.lt_succ_iff_lt_or_eq.1 hq).elim (fun h3 => by rw [hB q h3 h1]; rfl) (fun h3 => by subst h3; rw [h1, sameS_refl]; simp))
      ·
        obtain ⟨qa, hqa, hqa2⟩ := mem_idx hg.2.1
        have hAt : A = true := hA qa (by have h9 := of_decide_eq_false c3; omega) hqa2
        obtain ⟨qb, hqb, hqb2⟩ := mem_idx hg.2.2.1
        have hBt : B = true := hB qb (by have h9 := of_decide_eq_false c3; omega) hqb2
        refine wp_exit ?_
        refine T_te ?_
        refine T_te ?_
        refine T_be ?_
        refine T_tn ?_
        refine wp_seq ?_
        refine wp_seq ?_
        refine W_region ?_
        refine L (D_v (R_move q9) ?_)
        refine L (D_v (R_not rfl) ?_)
        refine L (D_v (R_move rfl) ?_)
        refine L (D_g1 rfl rfl (fun hb => R_move q10) ?_)
        refine L (D_g1 rfl rfl (fun hb => R_not (cgE hb)) ?_)
        refine L (D_v (R_pickO rfl rfl rfl) ?_)
        refine S_nil ?_
        refine T_tn ?_
        refine W_if rfl (fun c4 => ?_) (fun c4 => ?_)
        ·
          exfalso; rw [hAt, hBt] at c4; simp at c4
        ·
          refine wp_skip ?_
          refine T_tn ?_
          refine W_region ?_
          refine L (D_v (R_move q6) ?_)
          refine L (D_v (R_move q8) ?_)
          refine L (D_v (R_cast (v' := .int .u64 ((((e3_2a).getD (i) Ev.zero)).a).vote.signer) (R_conv Try.runUnderlying3 Try.runUnderlying83 rfl) (congrArg (Value.int .u64) (by have hbp := hg.2.2.2; rw [IntKind.wrap_u64]; omega))) ?_)
          refine L (D_v (R_bit (s := ((((e3_2a).getD (i) Ev.zero)).a).vote.signer) rfl rfl hg.2.2.2) ?_)
          refine L (D_v (R_orI rfl rfl) ?_)
          refine L (D_v (R_assign rfl) ?_)
          refine S_nil ?_
          refine T_bn ?_
          refine T_tn ?_
          refine W_region ?_
          refine L (D_v (R_move q7) ?_)
          refine L (D_v (R_addN (m := i) (j := 1) rfl rfl (by (try simp only [List.length_take, List.length_drop, List.length_append, List.length_cons, List.length_nil, List.length_replicate, List.length_set, Nm.b_len, be2_len]); omega)) ?_)
          refine L (D_v (R_assign rfl) ?_)
          refine S_nil ?_
          refine T_tn ?_
          refine ⟨_, _, ?_, rfl, i + 1, _, rfl, q0, q1, q5, rfl, rfl, hE, ov3_2, ?_, ?_⟩
          all_goals first | omega | exact mask_step hgu lk
  ·
    obtain rfl : i = e3_2a.length := by have h9 := of_decide_eq_false c1; omega
    have hgm := mask_all pe3_2
    rw [← hgu] at hgm
    refine wp_exit ?_
    refine T_te ?_
    refine T_te ?_
    refine T_be ?_
    refine T_tn ?_
    refine wp_seq ?_
    refine W_region ?_
    refine L (D_v (R_move q0) ?_)
    refine L (D_v (R_move q1) ?_)
    refine L (D_call (R_callF Try.call71 rfl rfl) (c71 vk (keys) w.heap.size (cut60 v (xs).length) (X1) _ ((hk.ext hE).lev fun _ _ _ => trivial) (Nat.le_trans (Nat.le_refl _) hE.size) (by (try simp only [List.length_take, List.length_drop, List.length_append, List.length_cons, List.length_nil, List.length_replicate, List.length_set, Nm.b_len, be2_len]); omega) (hcut1.ext hE)) (fun w8_2 e8_2 => ?_))
    replace hE := hE.trans e8_2
    refine L (D_v (R_move q6) ?_)
    refine L (D_v (R_eqlI rfl rfl) ?_)
    refine L (D_v (R_move rfl) ?_)
    refine L (D_gc1 rfl rfl (fun hb => R_callF Try.call74 rfl rfl) (fun hb => c74 _) (fun w8_6 e8_6 => ?_))
    replace hE := hE.trans e8_6
    refine L (D_v (R_pickA rfl rfl rfl) ?_)
    refine L (D_v (R_assign rfl) ?_)
    refine S_nil ?_
    refine T_tn ?_
    refine wp_ret ?_
    refine ret1 (v := .bool _) rfl rfl ⟨congrArg (fun b => Ending.returned (Value.bool b)) ?_, hE⟩
    rw [hgm]; simp
end Go.Proofs.Yteeopgpgbdhmhaa
namespace Go.Proofs.Yteeopgpgbdhmhaa.evidenceSound
open Go.ChangeShapes Go.WideShapes Go.ChangeAt Go.RowKit
set_option linter.unusedVariables false
set_option maxRecDepth 100000 in
theorem lifted (os : Os) (started : os.Started) (H : Type) (enc : TypeId × Value → H) :
    ReturnsInHanded {} Try.checked os 21 .any (Rows.evidenceSoundSpec.pre6 enc Try.prog Try.f21 Rows.evidenceSoundRow.domain false) (Rows.evidenceSoundSpec.post enc Try.prog Try.f21 false true false false) := by
  refine returnsInHanded_of_change (C := Try.checked) own started (by kernel_rfl) Try.func21
    (ChangeSpec.witness6 (enc := enc) (C := Try.checked) false ⟨#[], #[.slice none 0 0, .slice none 0 0], []⟩ 8 (by kernel_rfl) (by kernel_rfl) (by kernel_rfl) (by kernel_rfl)) ?_
  intro W base args ds gs before hval0 hW hcnd _
  have hval : ∀ (j : Nat) t v, Try.f21.params[j]? = some t → args[j]? = some v → Value.okWide Try.prog W .any base t v := hval0
  have hW' := hW
  obtain ⟨p, q, hA0, hV, rfl, hfz, hnd⟩ := hW
  have hA : DataW.TrodAll enc Try.prog W 0 (fun _ => true) true Try.f21.params.toList args.toList ds p := hA0
  rw [Try.params21] at hA hval
  obtain ⟨v0, vs0, d0, ds0, p0, q0, hargs, rfl, rfl, h0, r0⟩ := trodAll_cons hA
  obtain ⟨v1, vs1, d1, ds1, p1, q1, rfl, rfl, rfl, h1, r1⟩ := trodAll_cons r0
  obtain ⟨rfl, rfl, rfl⟩ := trodAll_nil r1
  obtain rfl : args = #[v0, v1] := by cases args; simp_all
  obtain ⟨rfl, rfl⟩ := trodVars_none hV
  have k0 := h0
  have lt0 : ∀ x ∈ p0, x.block < W.heap.size := by obtain ⟨m, hm⟩ := k0; exact DataW.trod_lt m _ _ _ hm
  have k1 := h1
  have lt1 : ∀ x ∈ p1, x.block < W.heap.size := by obtain ⟨m, hm⟩ := k1; exact DataW.trod_lt m _ _ _ hm
  obtain ⟨a0, f0⟩ := open45 (hval 0 45 v0 rfl rfl) h0
  obtain ⟨a1, f1⟩ := open46 (hval 1 46 v1 rfl rfl) h1
  clear hA0 hval0
  refine (c21 v0 a0 v1 a1 W f0 f1.1).mono fun e W' ⟨he, bel⟩ => ?_
  subst he
  exact ⟨_, rfl, _, _, _, [], _, [], hW', trodAll_mk1 (shut_bool Try.underlying4 _), (trodAll_cons_mk (Below.trod laidOut (by kernel_rfl) (of_decide_eq_true (by kernel_rfl)) k0 bel lt0) (trodAll_cons_mk (Below.trod laidOut (by kernel_rfl) (of_decide_eq_true (by kernel_rfl)) k1 bel lt1) trodAll_mk0)), rfl, bel.frame _, fun h => by cases h⟩
theorem q0 : (Rows.evidenceSoundRow.wf (OpenSpec.ofChange Rows.evidenceSoundSpec)) = true := by kernel_rfl
theorem q3 : (Try.f21.params.all (Try.prog.readableRec ·)) = true := by kernel_rfl
theorem q4 : (namedTie Try.prog Rows.evidenceSoundRow.named Rows.evidenceSoundSpec.vars) = true := by kernel_rfl
theorem q5 : ((Rows.evidenceSoundRow.stops == [])) = true := by kernel_rfl
theorem q7 : ((Rows.evidenceSoundRow.knobs == [])) = true := by kernel_rfl
theorem q9 : ((Rows.evidenceSoundRow.inPlace == Try.prog.inPlace 21)) = true := by kernel_rfl
theorem q10 : ((Rows.evidenceSoundRow.unfollowed == Try.prog.unfollowed 21)) = true := by kernel_rfl
theorem q11 : ((Rows.evidenceSoundRow.recurses == Try.prog.recurses 21)) = true := by kernel_rfl
theorem q12 : ((Rows.evidenceSoundRow.named == Try.prog.varsNamed 21)) = true := by kernel_rfl
theorem q13 : ((Rows.evidenceSoundRow.maps == (Try.f21.params.toList ++ Rows.evidenceSoundSpec.plain.varTypes Try.prog).any (Try.prog.mapsRec ·))) = true := by kernel_rfl
theorem q14 : ((Rows.evidenceSoundRow.ifaces == (Try.f21.params.toList ++ Rows.evidenceSoundSpec.plain.varTypes Try.prog).any (Try.prog.ifacesRec ·))) = true := by kernel_rfl
theorem q15 : ((Rows.evidenceSoundRow.mapsOut == Try.prog.mapsAmong Try.f21.resultTypes.toList)) = true := by kernel_rfl
theorem q16 : ((Rows.evidenceSoundRow.loops == (Try.f21.params.toList ++ Rows.evidenceSoundSpec.plain.varTypes Try.prog).any (Try.prog.loopsFrom ·))) = true := by kernel_rfl
theorem q17 : ((Rows.evidenceSoundRow.wideKeys == (Try.f21.params.toList ++ Rows.evidenceSoundSpec.plain.varTypes Try.prog ++ Try.f21.resultTypes.toList).any (Try.prog.wideKeysFrom ·))) = true := by kernel_rfl
theorem q18 : (Rows.evidenceSoundSpec.vars.all (Try.prog.varReadable ·)) = true := by kernel_rfl
theorem q19 : (Try.f21.resultTypes.all (fun t => Try.prog.readableRec t && decide (t < Try.prog.types.size))) = true := by kernel_rfl
theorem q20 : ((Rows.evidenceSoundRow.ifacesOut == Try.f21.resultTypes.toList.any (Try.prog.ifacesRec ·))) = true := by kernel_rfl
theorem q21 : ((Rows.evidenceSoundRow.loopsOut == Try.f21.resultTypes.toList.any (Try.prog.loopsFrom ·))) = true := by kernel_rfl
theorem q22 : ((Rows.evidenceSoundRow.plainKeys == Try.prog.plainKeys)) = true := fact_plainKeys
theorem q23 : (Rows.evidenceSoundRow.shortTexts.isNone) = true := by kernel_rfl
theorem q26 : ((Rows.evidenceSoundRow.lifted == Try.prog.liftsFinal)) = true := fact_liftsFinal
theorem q27 : ((Try.prog.make == some Rows.evidenceSoundRow.make)) = true := fact_make
theorem q28 : ((Rows.evidenceSoundRow.kinds == (if Rows.evidenceSoundRow.domain.isEmpty then [] else Try.f21.params.toList.map fun t => match Try.prog.underlying t with | some (.int k) => some k | _ => none))) = true := by kernel_rfl
theorem q29 : ((Rows.evidenceSoundRow.pinned == Rows.evidenceSoundRow.pinnedBy)) = true := by kernel_rfl
theorem q30 : ((Rows.evidenceSoundRow.veiled == (Try.f21.params.toList ++ Rows.evidenceSoundSpec.plain.varTypes Try.prog ++ Try.f21.resultTypes.toList).any (Try.prog.veiledRec ·))) = true := by kernel_rfl
theorem q31 : (Rows.evidenceSoundRow.veiledFits Try.prog Try.f21.params.toList (Try.f21.params.toList ++ Rows.evidenceSoundSpec.plain.varTypes Try.prog ++ Try.f21.resultTypes.toList)) = true := by kernel_rfl
theorem qn : Try.prog.funcNamed Rows.evidenceSoundRow.func = some 21 := by kernel_rfl
set_option maxRecDepth 100000 in
theorem closed : joinedFacts Try.prog 21 Try.f21 Rows.evidenceSoundSpec Rows.evidenceSoundRow = true := joined_of Try.prog 21 Try.f21 Rows.evidenceSoundSpec Rows.evidenceSoundRow q0 fact_laidOut fact_mapsRowed q3 q4 q5 fact_stops q7 fact_knobs q9 q10 q11 q12 q13 q14 q15 q16 q17 q18 q19 q20 q21 q22 q23 fact_heard fact_mayEnter q26 q27 q28 q29 q30 q31
theorem over : Rows.evidenceSoundRow.holds Try.pinned (OpenSpec.ofChange Rows.evidenceSoundSpec) :=
  OpenClaim.holds_of_wide 21 Try.f21 rfl rfl rfl rfl rfl rfl rfl ⟨rfl, rfl, rfl, rfl, rfl⟩ rfl rfl rfl rfl rfl qn Try.func21 closed
    (of_decide_eq_true (by kernel_rfl)) (by unfold Func.isWrapper; rw [if_neg (by decide +kernel)]; exact ⟨rfl, rfl⟩)
    (fun os started H enc _ => lifted os started H enc)
/-- THE STATEMENT -/
theorem proved : Rows.EvidenceSoundSaid := over
#print axioms proved
end Go.Proofs.Yteeopgpgbdhmhaa.evidenceSound
