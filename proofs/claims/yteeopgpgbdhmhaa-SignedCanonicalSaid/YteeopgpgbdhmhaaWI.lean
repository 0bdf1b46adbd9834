/- Walks of the functions on bytes: Build. No condition. Printed by wip/mkG.py. -/
import Derived.Test.YteeopgpgbdhmhaaWH
namespace Go.Proofs.Yteeopgpgbdhmhaa
open Go.RowKit
set_option linter.unusedVariables false
set_option linter.unusedSimpArgs false
attribute [local irreducible] wpList wpO H wpQuiet wpStill Code.wp Exit.then Exit.inBlock bodyPost Code.rounds Calls valid sameKey conflict lessV hless num between
-- forkledger/checker.Build
set_option maxRecDepth 4000 in
set_option maxHeartbeats 4000000 in
theorem c42 (v : Value) (es : List Ev) (w : World) (h : Es w v es) : Calls Try.prog 42 [v].toArray w (RetE w fun r w' => ∃ s, r = .tuple #[s, .bool (build es).2] ∧ OwnB w' w.heap.size s (build es).1) := by
  refine enter Try.func42 Try.ntmps42 rfl rfl ?_
  have hE := Ext.refl w
  refine wp_seq ?_
  refine W_region ?_
  refine L (D_v (R_assign rfl) ?_)
  refine L (D_v (R_assign rfl) ?_)
  refine S_nil ?_
  refine T_tn ?_
  refine wp_seq ?_
  refine wp_seq ?_
  refine W_region ?_
  refine L (D_v (R_move rfl) ?_)
  refine L (D_v (R_len Try.underlying42 rfl (h.ext hE).1) ?_)
  refine L (D_v (R_eqlI rfl rfl) ?_)
  refine L (D_v (R_move rfl) ?_)
  refine L (D_g1 rfl rfl (fun hb => R_move rfl) ?_)
  refine L (D_g1 rfl rfl (fun hb => R_len Try.underlying42 (cgE hb) (h.ext hE).1) ?_)
  refine L (D_g1 rfl rfl (fun hb => R_gtrI (cgE hb) rfl) ?_)
  refine L (D_v (R_pickO rfl rfl rfl) ?_)
  refine S_nil ?_
  refine T_tn ?_
  refine W_if rfl (fun c1 => ?_) (fun c1 => ?_)
  ·
    have hfail : ¬ (es.length ≤ 10 ∧ 0 < es.length) := by generalize es.length = L at c1 ⊢; simp at c1; omega
    refine wp_seq ?_
    refine W_region ?_
    refine L (D_v (R_assign rfl) ?_)
    refine L (D_v (R_assign rfl) ?_)
    refine S_nil ?_
    refine T_tn ?_
    refine wp_ret ?_
    refine T_tr ?_
    refine ret2 (v := (Value.slice none 0 0)) (v2 := .bool _) rfl rfl rfl ⟨_, rfl, hE, ?_⟩
    first | rw [build_none (.inl hfail)] | rw [build_none (.inr hz)]
    exact ⟨_, rfl, OwnB.nil _ _⟩
  ·
    have hbd : es.length ≤ 10 ∧ 0 < es.length := by generalize es.length = L at c1 ⊢; simp at c1; omega
    refine wp_skip ?_
    refine T_tn ?_
    refine wp_seq ?_
    refine W_region ?_
    refine L (D_v (R_move rfl) ?_)
    refine L (D_v (R_len Try.underlying42 rfl (h.ext hE).1) ?_)
    refine L (D_v (R_convB Try.runUnderlying3 rfl) ?_)
    refine L (D_buildB (vs := [(0, u8 (by8 ((((es).length : Nat) : Int))))]) (b := [(by8 ((((es).length : Nat) : Int)))]) Try.underlying31 Try.sizeOf5 Try.zeroValue5 rfl (fillB1 _) rfl rfl rfl (fun v3 w1 o4 e2 => ?_))
    replace o4 := o4.lo hE.size
    replace hE := hE.trans e2
    refine L (D_v (R_assign rfl) ?_)
    refine S_nil ?_
    refine T_tn ?_
    refine wp_seq ?_
    refine W_region ?_
    refine L (D_v (R_assign rfl) ?_)
    refine S_nil ?_
    refine T_tn ?_
    refine wp_seq ?_
    refine wp_seq ?_
    refine W_region ?_
    refine L (D_v (R_move rfl) ?_)
    refine L (D_v (R_len Try.underlying42 rfl (h.ext hE).1) ?_)
    refine L (D_v (R_move rfl) ?_)
    refine S_nil ?_
    refine T_tn ?_
    refine wp_block ?_
    refine W_loop (fun m g W => ∃ (r : Value) (acc : List UInt8) (p : Int) (i : Nat), m = es.length - i ∧ g 0 = v ∧ g 4 = r ∧ g 5 = i64 p ∧ g 22 = v ∧ g 23 = i64 ((es.length : Nat) : Int) ∧ g 24 = i64 (i : Int) ∧ Ext w W ∧ OwnB W w.heap.size r acc ∧ i ≤ es.length ∧ acc.length ≤ 786 * i + 1 ∧ bldS (es.drop i) p acc = bldS es (-1) [by8 ((es.length : Nat) : Int)]) ⟨_, _, (-1), 0, rfl, rfl, rfl, rfl, rfl, rfl, rfl, hE, o4, Nat.zero_le _, (by simp), rfl⟩ ?_
    clear hE o4
    rintro m f2 w2 ⟨r, acc, p, i, hm, q0, q4, q5, q22, q23, q24, hE, ho, hi, hl, hbl⟩
    subst hm
    refine wp_seq ?_
    refine W_region ?_
    refine L (D_v (R_lssI q24 q23) ?_)
    refine S_nil ?_
    refine T_tn ?_
    refine wp_seq ?_
    refine W_if rfl (fun c7 => ?_) (fun c7 => ?_)
    ·
      have lk : i < es.length := by simpa using c7
      obtain ⟨e, he⟩ : ∃ e, es[i]? = some e := ⟨_, List.getElem?_eq_getElem lk⟩
      have hee : e.ok w := h.2 e (List.mem_of_getElem? he)
      have hle := encE_le e
      refine wp_skip ?_
      refine T_tn ?_
      refine wp_seq ?_
      refine wp_block ?_
      refine wp_seq ?_
      refine W_region ?_
      refine L (D_v (R_elAddr (i := i) Try.underlying42 Try.sizeOf55 q22 q24 (h.ext hE).1 lk) ?_)
      refine L (D_v (R_loadElA (c := (e).l) (j := i * 46) Try.isAgg55 Try.sizeOf55 rfl (h.ext hE).1 rfl (by omega) (fun k hk => evl_at he k hk)) ?_)
      refine L (D_alloc Try.zeroValue55 rfl (fun aB1 w3 e8 gB1 hB1 => ?_))
      have lB1 := Nat.le_trans hE.size gB1
      replace hE := hE.trans e8
      replace ho := ho.ext e8
      have xho := ho.neB hB1 rfl
      refine L (D_storeA Try.sizeOf55 hB1 rfl rfl rfl rfl rfl (l' := (e).l) rfl (fun w4 k9 hB1 => ?_))
      replace hE := hE.kp k9 lB1
      replace ho := ho.kp k9 xho
      refine S_nil ?_
      refine T_tn ?_
      refine wp_seq ?_
      refine W_region ?_
      refine L (D_v (R_loadA (c := (e).l) Try.isAgg55 Try.sizeOf55 hB1 rfl rfl rfl) ?_)
      refine L (D_callE (R_callF Try.call79 rfl rfl) (c79 (e) _ (hee.ext hE)) (fun v11 w5 e10 p12 => ?_))
      obtain ⟨q14, rfl, o13⟩ := p12
      replace o13 := o13.lo hE.size
      replace hE := hE.trans e10
      replace hB1 := hB1.ext e10
      replace ho := ho.ext e10
      refine L (D_v (R_move rfl) ?_)
      refine L (D_v (R_extract rfl rfl) ?_)
      refine L (D_v (R_extract rfl rfl) ?_)
      refine L (D_v (R_assign rfl) ?_)
      refine L (D_v (R_assign rfl) ?_)
      refine S_nil ?_
      refine T_tn ?_
      refine wp_seq ?_
      refine wp_seq ?_
      refine W_region ?_
      refine L (D_v (R_move rfl) ?_)
      refine L (D_v (R_not rfl) ?_)
      refine L (D_v (R_move rfl) ?_)
      refine L (D_g1 rfl rfl (fun hb => R_fieldAddr Try.runUnderlying55 rfl Try.sizeOf53 rfl) ?_)
      refine L (D_g1 rfl rfl (fun hb => R_fieldAddr Try.runUnderlying53 rfl Try.sizeOf26 (cgE hb)) ?_)
      refine L (D_g1 rfl rfl (fun hb => R_fieldAddr Try.runUnderlying26 rfl Try.sizeOf3 (cgE hb)) ?_)
      refine L (D_g1 rfl rfl (fun hb => R_load Try.isAgg3 hB1 (cgE hb) rfl) ?_)
      refine L (D_g1 rfl rfl (fun hb => R_move q5) ?_)
      refine L (D_g1 rfl rfl (fun hb => R_leqI (cgE hb) (cgE hb)) ?_)
      refine L (D_v (R_pickO rfl rfl rfl) ?_)
      refine S_nil ?_
      refine T_tn ?_
      refine W_if rfl (fun c15 => ?_) (fun c15 => ?_)
      ·
        have hz := bld_fail hbl he (by intro hh; simp [hh.1] at c15; omega)
        refine wp_seq ?_
        refine W_region ?_
        refine L (D_v (R_assign rfl) ?_)
        refine L (D_v (R_assign rfl) ?_)
        refine S_nil ?_
        refine T_tn ?_
        refine wp_ret ?_
        refine T_tr ?_
        refine T_br ?_
        refine T_tr ?_
        refine T_tr ?_
        refine T_br ?_
        refine T_tr ?_
        refine ret2 (v := (Value.slice none 0 0)) (v2 := .bool _) rfl rfl rfl ⟨_, rfl, hE, ?_⟩
        first | rw [build_none (.inl hfail)] | rw [build_none (.inr hz)]
        exact ⟨_, rfl, OwnB.nil _ _⟩
      ·
        have hk : okE e = true ∧ p < e.a.vote.signer := by cases hv : okE e <;> simp [hv] at c15 ⊢; omega
        refine wp_skip ?_
        refine T_tn ?_
        refine wp_seq ?_
        refine W_region ?_
        refine L (D_v (R_fieldAddr Try.runUnderlying55 rfl Try.sizeOf53 rfl) ?_)
        refine L (D_v (R_fieldAddr Try.runUnderlying53 rfl Try.sizeOf26 rfl) ?_)
        refine L (D_v (R_fieldAddr Try.runUnderlying26 rfl Try.sizeOf3 rfl) ?_)
        refine L (D_v (R_load Try.isAgg3 hB1 rfl rfl) ?_)
        refine L (D_v (R_assign rfl) ?_)
        refine S_nil ?_
        refine T_tn ?_
        refine W_region ?_
        refine L (D_v (R_move q4) ?_)
        refine L (D_v (R_move rfl) ?_)
        refine L (D_appendB elt5 Try.underlying31 rfl rfl ho o13.bs (by (try simp only [List.length_take, List.length_drop, List.length_append, List.length_cons, List.length_nil, Nm.b_len, be2_len]); omega) hE.size (fun v17 w6 o18 g16 => ?_))
        replace hE := hE.grown g16 (fun k hk => own_ge ho hk)
        replace hB1 := hB1.grown g16 (ho.neB hB1 rfl)
        refine L (D_v (R_assign rfl) ?_)
        refine S_nil ?_
        refine T_bn ?_
        refine T_tn ?_
        refine W_region ?_
        refine L (D_v (R_addN (m := i) (j := 1) q24 rfl (by (try simp only [List.length_take, List.length_drop, List.length_append, List.length_cons, List.length_nil, Nm.b_len, be2_len]); omega)) ?_)
        refine L (D_v (R_move rfl) ?_)
        refine S_nil ?_
        refine T_tn ?_
        refine ⟨_, _, ?_, rfl, _, _, _, i + 1, rfl, q0, rfl, rfl, q22, q23, rfl, hE, o18, ?_, ?_, ?_⟩
        all_goals first | omega | exact bld_step hbl he hk.1 hk.2 | (simp only [List.length_append]; omega) | exact .inr ⟨by omega, e, he, rfl⟩
    ·
      have lk : ¬ i < es.length := by simpa using c7
      have hz := bld_end hbl lk
      refine wp_exit ?_
      refine T_te ?_
      refine T_te ?_
      refine T_be ?_
      refine T_tn ?_
      refine wp_seq ?_
      refine W_region ?_
      refine L (D_v (R_move q4) ?_)
      refine L (D_v (R_assign rfl) ?_)
      refine L (D_v (R_assign rfl) ?_)
      refine S_nil ?_
      refine T_tn ?_
      refine wp_ret ?_
      refine ret2 (v := r) (v2 := .bool _) rfl rfl rfl ⟨_, rfl, hE, ?_⟩
      rw [build_some hbd.1 hbd.2 hz]
      exact ⟨_, rfl, ho⟩

-- forkledger/forkledgerref6.Build
set_option maxRecDepth 4000 in
set_option maxHeartbeats 4000000 in
theorem c43 (v : Value) (es : List Ev) (w : World) (h : Es w v es) : Calls Try.prog 43 [v].toArray w (RetE w fun r w' => ∃ s, r = .tuple #[s, .bool (build es).2] ∧ OwnB w' w.heap.size s (build es).1) := by
  refine enter Try.func43 Try.ntmps43 rfl rfl ?_
  have hE := Ext.refl w
  refine wp_seq ?_
  refine W_region ?_
  refine L (D_v (R_assign rfl) ?_)
  refine L (D_v (R_assign rfl) ?_)
  refine S_nil ?_
  refine T_tn ?_
  refine wp_seq ?_
  refine wp_seq ?_
  refine W_region ?_
  refine L (D_v (R_move rfl) ?_)
  refine L (D_v (R_len Try.underlying42 rfl (h.ext hE).1) ?_)
  refine L (D_v (R_eqlI rfl rfl) ?_)
  refine L (D_v (R_move rfl) ?_)
  refine L (D_g1 rfl rfl (fun hb => R_move rfl) ?_)
  refine L (D_g1 rfl rfl (fun hb => R_len Try.underlying42 (cgE hb) (h.ext hE).1) ?_)
  refine L (D_g1 rfl rfl (fun hb => R_gtrI (cgE hb) rfl) ?_)
  refine L (D_v (R_pickO rfl rfl rfl) ?_)
  refine S_nil ?_
  refine T_tn ?_
  refine W_if rfl (fun c1 => ?_) (fun c1 => ?_)
  ·
    have hfail : ¬ (es.length ≤ 10 ∧ 0 < es.length) := by generalize es.length = L at c1 ⊢; simp at c1; omega
    refine wp_seq ?_
    refine W_region ?_
    refine L (D_v (R_assign rfl) ?_)
    refine L (D_v (R_assign rfl) ?_)
    refine S_nil ?_
    refine T_tn ?_
    refine wp_ret ?_
    refine T_tr ?_
    refine ret2 (v := (Value.slice none 0 0)) (v2 := .bool _) rfl rfl rfl ⟨_, rfl, hE, ?_⟩
    first | rw [build_none (.inl hfail)] | rw [build_none (.inr hz)]
    exact ⟨_, rfl, OwnB.nil _ _⟩
  ·
    have hbd : es.length ≤ 10 ∧ 0 < es.length := by generalize es.length = L at c1 ⊢; simp at c1; omega
    refine wp_skip ?_
    refine T_tn ?_
    refine wp_seq ?_
    refine W_region ?_
    refine L (D_v (R_move rfl) ?_)
    refine L (D_v (R_len Try.underlying42 rfl (h.ext hE).1) ?_)
    refine L (D_v (R_convB Try.runUnderlying3 rfl) ?_)
    refine L (D_buildB (vs := [(0, u8 (by8 ((((es).length : Nat) : Int))))]) (b := [(by8 ((((es).length : Nat) : Int)))]) Try.underlying31 Try.sizeOf5 Try.zeroValue5 rfl (fillB1 _) rfl rfl rfl (fun v3 w1 o4 e2 => ?_))
    replace o4 := o4.lo hE.size
    replace hE := hE.trans e2
    refine L (D_v (R_assign rfl) ?_)
    refine S_nil ?_
    refine T_tn ?_
    refine wp_seq ?_
    refine wp_seq ?_
    refine W_region ?_
    refine L (D_v (R_assign rfl) ?_)
    refine S_nil ?_
    refine T_tn ?_
    refine wp_block ?_
    refine W_loop (fun m g W => ∃ (r : Value) (acc : List UInt8) (p : Int) (i : Nat), m = es.length - i ∧ g 0 = v ∧ g 4 = r ∧ g 5 = i64 (i : Int) ∧ Ext w W ∧ OwnB W w.heap.size r acc ∧ i ≤ es.length ∧ acc.length ≤ 786 * i + 1 ∧ bldS (es.drop i) p acc = bldS es (-1) [by8 ((es.length : Nat) : Int)] ∧ ((i = 0 ∧ p = -1) ∨ (0 < i ∧ ∃ x, es[i - 1]? = some x ∧ p = x.a.vote.signer))) ⟨_, _, (-1), 0, rfl, rfl, rfl, rfl, hE, o4, Nat.zero_le _, (by simp), rfl, (.inl ⟨rfl, rfl⟩)⟩ ?_
    clear hE o4
    rintro m f2 w2 ⟨r, acc, p, i, hm, q0, q4, q5, hE, ho, hi, hl, hbl, hp⟩
    subst hm
    refine wp_seq ?_
    refine wp_seq ?_
    refine W_region ?_
    refine L (D_v (R_move q5) ?_)
    refine L (D_v (R_move q0) ?_)
    refine L (D_v (R_len Try.underlying42 rfl (h.ext hE).1) ?_)
    refine L (D_v (R_lssI rfl rfl) ?_)
    refine S_nil ?_
    refine T_tn ?_
    refine W_if rfl (fun c7 => ?_) (fun c7 => ?_)
    ·
      have lk : i < es.length := by simpa using c7
      obtain ⟨e, he⟩ : ∃ e, es[i]? = some e := ⟨_, List.getElem?_eq_getElem lk⟩
      have hee : e.ok w := h.2 e (List.mem_of_getElem? he)
      have hle := encE_le e
      obtain ⟨x, hx⟩ := prev_ex lk
      refine wp_skip ?_
      refine T_tn ?_
      refine wp_seq ?_
      refine wp_block ?_
      refine wp_seq ?_
      refine W_region ?_
      refine L (D_v (R_move q0) ?_)
      refine L (D_v (R_move q5) ?_)
      refine L (D_v (R_elAddr (i := i) Try.underlying42 Try.sizeOf55 rfl rfl (h.ext hE).1 lk) ?_)
      refine L (D_v (R_loadElA (c := (e).l) (j := i * 46) Try.isAgg55 Try.sizeOf55 rfl (h.ext hE).1 rfl (by omega) (fun k hk => evl_at he k hk)) ?_)
      refine L (D_callE (R_callF Try.call80 rfl rfl) (c80 (e) _ (hee.ext hE)) (fun v9 w3 e8 p10 => ?_))
      obtain ⟨q12, rfl, o11⟩ := p10
      replace o11 := o11.lo hE.size
      replace hE := hE.trans e8
      replace ho := ho.ext e8
      refine L (D_v (R_move rfl) ?_)
      refine L (D_v (R_extract rfl rfl) ?_)
      refine L (D_v (R_extract rfl rfl) ?_)
      refine L (D_v (R_assign rfl) ?_)
      refine L (D_v (R_assign rfl) ?_)
      refine S_nil ?_
      refine T_tn ?_
      refine wp_seq ?_
      refine wp_seq ?_
      refine W_draw mixed (by kernel_rfl) ?_
      refine Q_v (fun w hw => R_move rfl) ?_
      refine Q_v (fun w hw => R_not rfl) ?_
      refine Q_v (fun w hw => R_move rfl) ?_
      refine Q_g1 rfl rfl (fun hb w hw => R_move q5) ?_
      refine Q_g1 rfl rfl (fun hb w hw => R_gtrI (cgE hb) rfl) ?_
      refine Q_g1 rfl rfl (fun hb w hw => R_move (cgE hb)) ?_
      refine Q_g2 rfl rfl (fun hg hb w hw => R_move q0) ?_
      refine Q_g2 rfl rfl (fun hg hb w hw => R_move q5) ?_
      refine Q_g2 rfl rfl (fun hg hb w hw => R_elAddr (i := i) Try.underlying42 Try.sizeOf55 (cgA hg hb) (cgA hg hb) (h.ext (hE.trans hw)).1 lk) ?_
      refine Q_g2 rfl rfl (fun hg hb w hw => R_fieldEl (k := i * 46) Try.runUnderlying55 rfl Try.sizeOf53 (h.ext (hE.trans hw)).1 (by rw [evl_len]; have := (List.getElem?_eq_some_iff.1 he).1; omega) (cgA hg hb)) ?_
      refine Q_g2 rfl rfl (fun hg hb w hw => R_fieldEl (k := i * 46 + 0) Try.runUnderlying53 rfl Try.sizeOf26 (h.ext (hE.trans hw)).1 (by rw [evl_len]; have := (List.getElem?_eq_some_iff.1 he).1; omega) (cgA hg hb)) ?_
      refine Q_g2 rfl rfl (fun hg hb w hw => R_fieldEl (k := i * 46 + 0 + 0) Try.runUnderlying26 rfl Try.sizeOf3 (h.ext (hE.trans hw)).1 (by rw [evl_len]; have := (List.getElem?_eq_some_iff.1 he).1; omega) (cgA hg hb)) ?_
      refine Q_g2 rfl rfl (fun hg hb w hw => R_loadEl (u := i64 (e).a.vote.signer) (j := i * 46 + 0 + 0 + 4) Try.isAgg3 (cgA hg hb) (h.ext (hE.trans hw)).1 ((congrArg _ (by omega)).trans ((evl_at he 4 (by omega)).trans rfl))) ?_
      refine Q_g2 rfl rfl (fun hg hb w hw => R_move q0) ?_
      refine Q_g2 rfl rfl (fun hg hb w hw => R_move q5) ?_
      refine Q_g2 rfl rfl (fun hg hb w hw => R_subN (m := i) (j := 1) (cgA hg hb) rfl (by have h1 : 0 < i := (by simpa using hb); omega) (by omega)) ?_
      refine Q_g2 rfl rfl (fun hg hb w hw => R_elAddr (i := (i - 1)) Try.underlying42 Try.sizeOf55 (cgA hg hb) (cgA hg hb) (h.ext (hE.trans hw)).1 (by omega)) ?_
      refine Q_g2 rfl rfl (fun hg hb w hw => R_fieldEl (k := (i - 1) * 46) Try.runUnderlying55 rfl Try.sizeOf53 (h.ext (hE.trans hw)).1 (by rw [evl_len]; have := (List.getElem?_eq_some_iff.1 (hx (by simpa using hb))).1; omega) (cgA hg hb)) ?_
      refine Q_g2 rfl rfl (fun hg hb w hw => R_fieldEl (k := (i - 1) * 46 + 0) Try.runUnderlying53 rfl Try.sizeOf26 (h.ext (hE.trans hw)).1 (by rw [evl_len]; have := (List.getElem?_eq_some_iff.1 (hx (by simpa using hb))).1; omega) (cgA hg hb)) ?_
      refine Q_g2 rfl rfl (fun hg hb w hw => R_fieldEl (k := (i - 1) * 46 + 0 + 0) Try.runUnderlying26 rfl Try.sizeOf3 (h.ext (hE.trans hw)).1 (by rw [evl_len]; have := (List.getElem?_eq_some_iff.1 (hx (by simpa using hb))).1; omega) (cgA hg hb)) ?_
      refine Q_g2 rfl rfl (fun hg hb w hw => R_loadEl (u := i64 (x).a.vote.signer) (j := (i - 1) * 46 + 0 + 0 + 4) Try.isAgg3 (cgA hg hb) (h.ext (hE.trans hw)).1 ((congrArg _ (by omega)).trans ((evl_at (hx (by simpa using hb)) 4 (by omega)).trans rfl))) ?_
      refine Q_g2 rfl rfl (fun hg hb w hw => R_leqI (cgA hg hb) (cgA hg hb)) ?_
      refine Q_g1 rfl rfl (fun hb w hw => R_pickA (cgE hb) (cgD hb) rfl) ?_
      refine Q_v (fun w hw => R_pickO rfl rfl rfl) ?_
      refine Q_nil (fun w4 e13 => ?_)
      replace hE := hE.trans e13
      replace ho := ho.ext e13
      replace o11 := o11.ext e13
      refine T_tn ?_
      refine W_if rfl (fun c14 => ?_) (fun c14 => ?_)
      ·
        have hz := bld_fail hbl he (by rintro ⟨k1, k2⟩; have h1 := (prev_cmp hp hx k1).1 k2; simp [k1] at c14; omega)
        refine wp_seq ?_
        refine W_region ?_
        refine L (D_v (R_assign rfl) ?_)
        refine L (D_v (R_assign rfl) ?_)
        refine S_nil ?_
        refine T_tn ?_
        refine wp_ret ?_
        refine T_tr ?_
        refine T_br ?_
        refine T_tr ?_
        refine T_tr ?_
        refine T_br ?_
        refine T_tr ?_
        refine ret2 (v := (Value.slice none 0 0)) (v2 := .bool _) rfl rfl rfl ⟨_, rfl, hE, ?_⟩
        first | rw [build_none (.inl hfail)] | rw [build_none (.inr hz)]
        exact ⟨_, rfl, OwnB.nil _ _⟩
      ·
        have hk : okE e = true ∧ p < e.a.vote.signer := by cases hv : okE e with | false => simp [hv] at c14 | true => exact ⟨rfl, (prev_cmp hp hx hv).2 (by simp [hv] at c14; omega)⟩
        refine wp_skip ?_
        refine T_tn ?_
        refine W_region ?_
        refine L (D_v (R_move q4) ?_)
        refine L (D_v (R_move rfl) ?_)
        refine L (D_appendB elt5 Try.underlying31 rfl rfl ho o11.bs (by (try simp only [List.length_take, List.length_drop, List.length_append, List.length_cons, List.length_nil, Nm.b_len, be2_len]); omega) hE.size (fun v16 w5 o17 g15 => ?_))
        replace hE := hE.grown g15 (fun k hk => own_ge ho hk)
        refine L (D_v (R_assign rfl) ?_)
        refine S_nil ?_
        refine T_bn ?_
        refine T_tn ?_
        refine W_region ?_
        refine L (D_v (R_move q5) ?_)
        refine L (D_v (R_addN (m := i) (j := 1) rfl rfl (by (try simp only [List.length_take, List.length_drop, List.length_append, List.length_cons, List.length_nil, Nm.b_len, be2_len]); omega)) ?_)
        refine L (D_v (R_assign rfl) ?_)
        refine S_nil ?_
        refine T_tn ?_
        refine ⟨_, _, ?_, rfl, _, _, e.a.vote.signer, i + 1, rfl, q0, rfl, rfl, hE, o17, ?_, ?_, ?_, ?_⟩
        all_goals first | omega | exact bld_step hbl he hk.1 hk.2 | (simp only [List.length_append]; omega) | exact .inr ⟨by omega, e, he, rfl⟩
    ·
      have lk : ¬ i < es.length := by simpa using c7
      have hz := bld_end hbl lk
      refine wp_exit ?_
      refine T_te ?_
      refine T_te ?_
      refine T_be ?_
      refine T_tn ?_
      refine wp_seq ?_
      refine W_region ?_
      refine L (D_v (R_move q4) ?_)
      refine L (D_v (R_assign rfl) ?_)
      refine L (D_v (R_assign rfl) ?_)
      refine S_nil ?_
      refine T_tn ?_
      refine wp_ret ?_
      refine ret2 (v := r) (v2 := .bool _) rfl rfl rfl ⟨_, rfl, hE, ?_⟩
      rw [build_some hbd.1 hbd.2 hz]
      exact ⟨_, rfl, ho⟩
end Go.Proofs.Yteeopgpgbdhmhaa
