/- What the law needs, part 3. No condition. -/
import Derived.DataReads
import Derived.Deep.DeepAppendWide
import Derived.SizedLaws
import Derived.Test.YteeopgpgbdhmhaaSli2
namespace Go.Proofs.Yteeopgpgbdhmhaa
open Go.RowKit
set_option linter.unusedVariables false
set_option linter.unusedSimpArgs false
attribute [local irreducible] wpList wpO H wpQuiet wpStill Code.wp Exit.then Exit.inBlock bodyPost Code.rounds Calls valid lessV hless num between
set_option maxRecDepth 4000 in
set_option maxHeartbeats 4000000 in
theorem c42 (v : Value) (es : List Ev) (w : World) (h : Es w v es) : Calls Try.prog 42 [v].toArray w (RetE w fun r w' => ∃ s, r = .tuple #[s, .bool (build es).2] ∧ OwnB w' w.heap.size s (build es).1) := by
  refine enter Try.func42 Try.ntmps42 rfl rfl ?_
  have hE := Ext.refl w
  refine wp_seq ?_
  refine W_region ?_
  refine L (D_v (R_assign rfl) ?_)
  refine L (D_v (R_assign rfl) ?_)
  refine S_nil ?_
  refine T_tn ?_
  refine wp_seq ?_
  refine wp_seq ?_
  refine W_region ?_
  refine L (D_v (R_move rfl) ?_)
  refine L (D_v (R_len Try.underlying42 rfl (h.ext hE).1) ?_)
  refine L (D_v (R_eqlI rfl rfl) ?_)
  refine L (D_v (R_move rfl) ?_)
  refine L (D_g1 rfl rfl (fun hb => R_move rfl) ?_)
  refine L (D_g1 rfl rfl (fun hb => R_len Try.underlying42 (cgE hb) (h.ext hE).1) ?_)
  refine L (D_g1 rfl rfl (fun hb => R_gtrI (cgE hb) rfl) ?_)
  refine L (D_v (R_pickO rfl rfl rfl) ?_)
  refine S_nil ?_
  refine T_tn ?_
  refine W_if rfl (fun c1 => ?_) (fun c1 => ?_)
  ·
    have hfail : ¬ (es.length ≤ 10 ∧ 0 < es.length) := by generalize es.length = L at c1 ⊢; simp at c1; omega
    refine wp_seq ?_
    refine W_region ?_
    refine L (D_v (R_assign rfl) ?_)
    refine L (D_v (R_assign rfl) ?_)
    refine S_nil ?_
    refine T_tn ?_
    refine wp_ret ?_
    refine T_tr ?_
    refine ret2 (v := (Value.slice none 0 0)) (v2 := .bool _) rfl rfl rfl ⟨_, rfl, hE, ?_⟩
    first | rw [build_none (.inl hfail)] | rw [build_none (.inr hz)]
    exact ⟨_, rfl, OwnB.nil _ _⟩
  ·
    have hbd : es.length ≤ 10 ∧ 0 < es.length := by generalize es.length = L at c1 ⊢; simp at c1; omega
    refine wp_skip ?_
    refine T_tn ?_
    refine wp_seq ?_
    refine W_region ?_
    refine L (D_v (R_move rfl) ?_)
    refine L (D_v (R_len Try.underlying42 rfl (h.ext hE).1) ?_)
    refine L (D_v (R_convB Try.runUnderlying3 rfl) ?_)
    refine L (D_buildB (vs := [(0, u8 (by8 ((((es).length : Nat) : Int))))]) (b := [(by8 ((((es).length : Nat) : Int)))]) Try.underlying31 Try.sizeOf5 Try.zeroValue5 rfl (fillB1 _) rfl rfl rfl (fun v3 w1 o4 e2 => ?_))
    replace o4 := o4.lo hE.size
    replace hE := hE.trans e2
    refine L (D_v (R_assign rfl) ?_)
    refine S_nil ?_
    refine T_tn ?_
    refine wp_seq ?_
    refine W_region ?_
    refine L (D_v (R_assign rfl) ?_)
    refine S_nil ?_
    refine T_tn ?_
    refine wp_seq ?_
    refine wp_seq ?_
    refine W_region ?_
    refine L (D_v (R_move rfl) ?_)
    refine L (D_v (R_len Try.underlying42 rfl (h.ext hE).1) ?_)
    refine L (D_v (R_move rfl) ?_)
    refine S_nil ?_
    refine T_tn ?_
    refine wp_block ?_
    refine W_loop (fun m g W => ∃ (r : Value) (acc : List UInt8) (p : Int) (i : Nat), m = es.length - i ∧ g 0 = v ∧ g 4 = r ∧ g 5 = i64 p ∧ g 22 = v ∧ g 23 = i64 ((es.length : Nat) : Int) ∧ g 24 = i64 (i : Int) ∧ Ext w W ∧ OwnB W w.heap.size r acc ∧ i ≤ es.length ∧ acc.length ≤ 786 * i + 1 ∧ bldS (es.drop i) p acc = bldS es (-1) [by8 ((es.length : Nat) : Int)]) ⟨_, _, (-1), 0, rfl, rfl, rfl, rfl, rfl, rfl, rfl, hE, o4, Nat.zero_le _, (by simp), rfl⟩ ?_
    clear hE o4
    rintro m f2 w2 ⟨r, acc, p, i, hm, q0, q4, q5, q22, q23, q24, hE, ho, hi, hl, hbl⟩
    subst hm
    refine wp_seq ?_
    refine W_region ?_
    refine L (D_v (R_lssI q24 q23) ?_)
    refine S_nil ?_
    refine T_tn ?_
    refine wp_seq ?_
    refine W_if rfl (fun c7 => ?_) (fun c7 => ?_)
    ·
      have lk : i < es.length := by simpa using c7
      obtain ⟨e, he⟩ : ∃ e, es[i]? = some e := ⟨_, List.getElem?_eq_getElem lk⟩
      have hee : e.ok w := h.2 e (List.mem_of_getElem? he)
      have hle := encE_le e
      refine wp_skip ?_
      refine T_tn ?_
      refine wp_seq ?_
      refine wp_block ?_
      refine wp_seq ?_
      refine W_region ?_
      refine L (D_v (R_elAddr (i := i) Try.underlying42 Try.sizeOf55 q22 q24 (h.ext hE).1 lk) ?_)
      refine L (D_v (R_loadElA (c := (e).l) (j := i * 46) Try.isAgg55 Try.sizeOf55 rfl (h.ext hE).1 rfl (by omega) (fun k hk => evl_at he k hk)) ?_)
      refine L (D_alloc Try.zeroValue55 rfl (fun aB1 w3 e8 gB1 hB1 => ?_))
      have lB1 := Nat.le_trans hE.size gB1
      replace hE := hE.trans e8
      replace ho := ho.ext e8
      have xho := ho.neB hB1 rfl
      refine L (D_storeA Try.sizeOf55 hB1 rfl rfl rfl rfl rfl (l' := (e).l) rfl (fun w4 k9 hB1 => ?_))
      replace hE := hE.kp k9 lB1
      replace ho := ho.kp k9 xho
      refine S_nil ?_
      refine T_tn ?_
      refine wp_seq ?_
      refine W_region ?_
      refine L (D_v (R_loadA (c := (e).l) Try.isAgg55 Try.sizeOf55 hB1 rfl rfl rfl) ?_)
      refine L (D_callE (R_callF Try.call79 rfl rfl) (c79 (e) _ (hee.ext hE)) (fun v11 w5 e10 p12 => ?_))
      obtain ⟨q14, rfl, o13⟩ := p12
      replace o13 := o13.lo hE.size
      replace hE := hE.trans e10
      replace hB1 := hB1.ext e10
      replace ho := ho.ext e10
      refine L (D_v (R_move rfl) ?_)
      refine L (D_v (R_extract rfl rfl) ?_)
      refine L (D_v (R_extract rfl rfl) ?_)
      refine L (D_v (R_assign rfl) ?_)
      refine L (D_v (R_assign rfl) ?_)
      refine S_nil ?_
      refine T_tn ?_
      refine wp_seq ?_
      refine wp_seq ?_
      refine W_region ?_
      refine L (D_v (R_move rfl) ?_)
      refine L (D_v (R_not rfl) ?_)
      refine L (D_v (R_move rfl) ?_)
      refine L (D_g1 rfl rfl (fun hb => R_fieldAddr Try.runUnderlying55 rfl Try.sizeOf53 rfl) ?_)
      refine L (D_g1 rfl rfl (fun hb => R_fieldAddr Try.runUnderlying53 rfl Try.sizeOf26 (cgE hb)) ?_)
      refine L (D_g1 rfl rfl (fun hb => R_fieldAddr Try.runUnderlying26 rfl Try.sizeOf3 (cgE hb)) ?_)
      refine L (D_g1 rfl rfl (fun hb => R_load Try.isAgg3 hB1 (cgE hb) rfl) ?_)
      refine L (D_g1 rfl rfl (fun hb => R_move q5) ?_)
      refine L (D_g1 rfl rfl (fun hb => R_leqI (cgE hb) (cgE hb)) ?_)
      refine L (D_v (R_pickO rfl rfl rfl) ?_)
      refine S_nil ?_
      refine T_tn ?_
      refine W_if rfl (fun c15 => ?_) (fun c15 => ?_)
      ·
        have hz := bld_fail hbl he (by intro hh; simp [hh.1] at c15; omega)
        refine wp_seq ?_
        refine W_region ?_
        refine L (D_v (R_assign rfl) ?_)
        refine L (D_v (R_assign rfl) ?_)
        refine S_nil ?_
        refine T_tn ?_
        refine wp_ret ?_
        refine T_tr ?_
        refine T_br ?_
        refine T_tr ?_
        refine T_tr ?_
        refine T_br ?_
        refine T_tr ?_
        refine ret2 (v := (Value.slice none 0 0)) (v2 := .bool _) rfl rfl rfl ⟨_, rfl, hE, ?_⟩
        first | rw [build_none (.inl hfail)] | rw [build_none (.inr hz)]
        exact ⟨_, rfl, OwnB.nil _ _⟩
      ·
        have hk : okE e = true ∧ p < e.a.vote.signer := by cases hv : okE e <;> simp [hv] at c15 ⊢; omega
        refine wp_skip ?_
        refine T_tn ?_
        refine wp_seq ?_
        refine W_region ?_
        refine L (D_v (R_fieldAddr Try.runUnderlying55 rfl Try.sizeOf53 rfl) ?_)
        refine L (D_v (R_fieldAddr Try.runUnderlying53 rfl Try.sizeOf26 rfl) ?_)
        refine L (D_v (R_fieldAddr Try.runUnderlying26 rfl Try.sizeOf3 rfl) ?_)
        refine L (D_v (R_load Try.isAgg3 hB1 rfl rfl) ?_)
        refine L (D_v (R_assign rfl) ?_)
        refine S_nil ?_
        refine T_tn ?_
        refine W_region ?_
        refine L (D_v (R_move q4) ?_)
        refine L (D_v (R_move rfl) ?_)
        refine L (D_appendB elt5 Try.underlying31 rfl rfl ho o13.bs (by (try simp only [List.length_take, List.length_drop, List.length_append, List.length_cons, List.length_nil, Nm.b_len, be2_len]); omega) hE.size (fun v17 w6 o18 g16 => ?_))
        replace hE := hE.grown g16 (fun k hk => own_ge ho hk)
        replace hB1 := hB1.grown g16 (ho.neB hB1 rfl)
        refine L (D_v (R_assign rfl) ?_)
        refine S_nil ?_
        refine T_bn ?_
        refine T_tn ?_
        refine W_region ?_
        refine L (D_v (R_addN (m := i) (j := 1) q24 rfl (by (try simp only [List.length_take, List.length_drop, List.length_append, List.length_cons, List.length_nil, Nm.b_len, be2_len]); omega)) ?_)
        refine L (D_v (R_move rfl) ?_)
        refine S_nil ?_
        refine T_tn ?_
        refine ⟨_, _, ?_, rfl, _, _, _, i + 1, rfl, q0, rfl, rfl, q22, q23, rfl, hE, o18, ?_, ?_, ?_⟩
        all_goals first | omega | exact bld_step hbl he hk.1 hk.2 | (simp only [List.length_append]; omega) | exact .inr ⟨by omega, e, he, rfl⟩
    ·
      have lk : ¬ i < es.length := by simpa using c7
      have hz := bld_end hbl lk
      refine wp_exit ?_
      refine T_te ?_
      refine T_te ?_
      refine T_be ?_
      refine T_tn ?_
      refine wp_seq ?_
      refine W_region ?_
      refine L (D_v (R_move q4) ?_)
      refine L (D_v (R_assign rfl) ?_)
      refine L (D_v (R_assign rfl) ?_)
      refine S_nil ?_
      refine T_tn ?_
      refine wp_ret ?_
      refine ret2 (v := r) (v2 := .bool _) rfl rfl rfl ⟨_, rfl, hE, ?_⟩
      rw [build_some hbd.1 hbd.2 hz]
      exact ⟨_, rfl, ho⟩
set_option maxRecDepth 4000 in
set_option maxHeartbeats 4000000 in
theorem c43 (v : Value) (es : List Ev) (w : World) (h : Es w v es) : Calls Try.prog 43 [v].toArray w (RetE w fun r w' => ∃ s, r = .tuple #[s, .bool (build es).2] ∧ OwnB w' w.heap.size s (build es).1) := by
  refine enter Try.func43 Try.ntmps43 rfl rfl ?_
  have hE := Ext.refl w
  refine wp_seq ?_
  refine W_region ?_
  refine L (D_v (R_assign rfl) ?_)
  refine L (D_v (R_assign rfl) ?_)
  refine S_nil ?_
  refine T_tn ?_
  refine wp_seq ?_
  refine wp_seq ?_
  refine W_region ?_
  refine L (D_v (R_move rfl) ?_)
  refine L (D_v (R_len Try.underlying42 rfl (h.ext hE).1) ?_)
  refine L (D_v (R_eqlI rfl rfl) ?_)
  refine L (D_v (R_move rfl) ?_)
  refine L (D_g1 rfl rfl (fun hb => R_move rfl) ?_)
  refine L (D_g1 rfl rfl (fun hb => R_len Try.underlying42 (cgE hb) (h.ext hE).1) ?_)
  refine L (D_g1 rfl rfl (fun hb => R_gtrI (cgE hb) rfl) ?_)
  refine L (D_v (R_pickO rfl rfl rfl) ?_)
  refine S_nil ?_
  refine T_tn ?_
  refine W_if rfl (fun c1 => ?_) (fun c1 => ?_)
  ·
    have hfail : ¬ (es.length ≤ 10 ∧ 0 < es.length) := by generalize es.length = L at c1 ⊢; simp at c1; omega
    refine wp_seq ?_
    refine W_region ?_
    refine L (D_v (R_assign rfl) ?_)
    refine L (D_v (R_assign rfl) ?_)
    refine S_nil ?_
    refine T_tn ?_
    refine wp_ret ?_
    refine T_tr ?_
    refine ret2 (v := (Value.slice none 0 0)) (v2 := .bool _) rfl rfl rfl ⟨_, rfl, hE, ?_⟩
    first | rw [build_none (.inl hfail)] | rw [build_none (.inr hz)]
    exact ⟨_, rfl, OwnB.nil _ _⟩
  ·
    have hbd : es.length ≤ 10 ∧ 0 < es.length := by generalize es.length = L at c1 ⊢; simp at c1; omega
    refine wp_skip ?_
    refine T_tn ?_
    refine wp_seq ?_
    refine W_region ?_
    refine L (D_v (R_move rfl) ?_)
    refine L (D_v (R_len Try.underlying42 rfl (h.ext hE).1) ?_)
    refine L (D_v (R_convB Try.runUnderlying3 rfl) ?_)
    refine L (D_buildB (vs := [(0, u8 (by8 ((((es).length : Nat) : Int))))]) (b := [(by8 ((((es).length : Nat) : Int)))]) Try.underlying31 Try.sizeOf5 Try.zeroValue5 rfl (fillB1 _) rfl rfl rfl (fun v3 w1 o4 e2 => ?_))
    replace o4 := o4.lo hE.size
    replace hE := hE.trans e2
    refine L (D_v (R_assign rfl) ?_)
    refine S_nil ?_
    refine T_tn ?_
    refine wp_seq ?_
    refine wp_seq ?_
    refine W_region ?_
    refine L (D_v (R_assign rfl) ?_)
    refine S_nil ?_
    refine T_tn ?_
    refine wp_block ?_
    refine W_loop (fun m g W => ∃ (r : Value) (acc : List UInt8) (p : Int) (i : Nat), m = es.length - i ∧ g 0 = v ∧ g 4 = r ∧ g 5 = i64 (i : Int) ∧ Ext w W ∧ OwnB W w.heap.size r acc ∧ i ≤ es.length ∧ acc.length ≤ 786 * i + 1 ∧ bldS (es.drop i) p acc = bldS es (-1) [by8 ((es.length : Nat) : Int)] ∧ ((i = 0 ∧ p = -1) ∨ (0 < i ∧ ∃ x, es[i - 1]? = some x ∧ p = x.a.vote.signer))) ⟨_, _, (-1), 0, rfl, rfl, rfl, rfl, hE, o4, Nat.zero_le _, (by simp), rfl, (.inl ⟨rfl, rfl⟩)⟩ ?_
    clear hE o4
    rintro m f2 w2 ⟨r, acc, p, i, hm, q0, q4, q5, hE, ho, hi, hl, hbl, hp⟩
    subst hm
    refine wp_seq ?_
    refine wp_seq ?_
    refine W_region ?_
    refine L (D_v (R_move q5) ?_)
    refine L (D_v (R_move q0) ?_)
    refine L (D_v (R_len Try.underlying42 rfl (h.ext hE).1) ?_)
    refine L (D_v (R_lssI rfl rfl) ?_)
    refine S_nil ?_
    refine T_tn ?_
    refine W_if rfl (fun c7 => ?_) (fun c7 => ?_)
    ·
      have lk : i < es.length := by simpa using c7
      obtain ⟨e, he⟩ : ∃ e, es[i]? = some e := ⟨_, List.getElem?_eq_getElem lk⟩
      have hee : e.ok w := h.2 e (List.mem_of_getElem? he)
      have hle := encE_le e
      obtain ⟨x, hx⟩ := prev_ex lk
      refine wp_skip ?_
      refine T_tn ?_
      refine wp_seq ?_
      refine wp_block ?_
      refine wp_seq ?_
      refine W_region ?_
      refine L (D_v (R_move q0) ?_)
      refine L (D_v (R_move q5) ?_)
      refine L (D_v (R_elAddr (i := i) Try.underlying42 Try.sizeOf55 rfl rfl (h.ext hE).1 lk) ?_)
      refine L (D_v (R_loadElA (c := (e).l) (j := i * 46) Try.isAgg55 Try.sizeOf55 rfl (h.ext hE).1 rfl (by omega) (fun k hk => evl_at he k hk)) ?_)
      refine L (D_callE (R_callF Try.call80 rfl rfl) (c80 (e) _ (hee.ext hE)) (fun v9 w3 e8 p10 => ?_))
      obtain ⟨q12, rfl, o11⟩ := p10
      replace o11 := o11.lo hE.size
      replace hE := hE.trans e8
      replace ho := ho.ext e8
      refine L (D_v (R_move rfl) ?_)
      refine L (D_v (R_extract rfl rfl) ?_)
      refine L (D_v (R_extract rfl rfl) ?_)
      refine L (D_v (R_assign rfl) ?_)
      refine L (D_v (R_assign rfl) ?_)
      refine S_nil ?_
      refine T_tn ?_
      refine wp_seq ?_
      refine wp_seq ?_
      refine W_draw mixed (by kernel_rfl) ?_
      refine Q_v (fun w hw => R_move rfl) ?_
      refine Q_v (fun w hw => R_not rfl) ?_
      refine Q_v (fun w hw => R_move rfl) ?_
      refine Q_g1 rfl rfl (fun hb w hw => R_move q5) ?_
      refine Q_g1 rfl rfl (fun hb w hw => R_gtrI (cgE hb) rfl) ?_
      refine Q_g1 rfl rfl (fun hb w hw => R_move (cgE hb)) ?_
      refine Q_g2 rfl rfl (fun hg hb w hw => R_move q0) ?_
      refine Q_g2 rfl rfl (fun hg hb w hw => R_move q5) ?_
      refine Q_g2 rfl rfl (fun hg hb w hw => R_elAddr (i := i) Try.underlying42 Try.sizeOf55 (cgA hg hb) (cgA hg hb) (h.ext (hE.trans hw)).1 lk) ?_
      refine Q_g2 rfl rfl (fun hg hb w hw => R_fieldEl (k := i * 46) Try.runUnderlying55 rfl Try.sizeOf53 (h.ext (hE.trans hw)).1 (by rw [evl_len]; have := (List.getElem?_eq_some_iff.1 he).1; omega) (cgA hg hb)) ?_
      refine Q_g2 rfl rfl (fun hg hb w hw => R_fieldEl (k := i * 46 + 0) Try.runUnderlying53 rfl Try.sizeOf26 (h.ext (hE.trans hw)).1 (by rw [evl_len]; have := (List.getElem?_eq_some_iff.1 he).1; omega) (cgA hg hb)) ?_
      refine Q_g2 rfl rfl (fun hg hb w hw => R_fieldEl (k := i * 46 + 0 + 0) Try.runUnderlying26 rfl Try.sizeOf3 (h.ext (hE.trans hw)).1 (by rw [evl_len]; have := (List.getElem?_eq_some_iff.1 he).1; omega) (cgA hg hb)) ?_
      refine Q_g2 rfl rfl (fun hg hb w hw => R_loadEl (u := i64 (e).a.vote.signer) (j := i * 46 + 0 + 0 + 4) Try.isAgg3 (cgA hg hb) (h.ext (hE.trans hw)).1 ((congrArg _ (by omega)).trans ((evl_at he 4 (by omega)).trans rfl))) ?_
      refine Q_g2 rfl rfl (fun hg hb w hw => R_move q0) ?_
      refine Q_g2 rfl rfl (fun hg hb w hw => R_move q5) ?_
      refine Q_g2 rfl rfl (fun hg hb w hw => R_subN (m := i) (j := 1) (cgA hg hb) rfl (by have h1 : 0 < i := (by simpa using hb); omega) (by omega)) ?_
      refine Q_g2 rfl rfl (fun hg hb w hw => R_elAddr (i := (i - 1)) Try.underlying42 Try.sizeOf55 (cgA hg hb) (cgA hg hb) (h.ext (hE.trans hw)).1 (by omega)) ?_
      refine Q_g2 rfl rfl (fun hg hb w hw => R_fieldEl (k := (i - 1) * 46) Try.runUnderlying55 rfl Try.sizeOf53 (h.ext (hE.trans hw)).1 (by rw [evl_len]; have := (List.getElem?_eq_some_iff.1 (hx (by simpa using hb))).1; omega) (cgA hg hb)) ?_
      refine Q_g2 rfl rfl (fun hg hb w hw => R_fieldEl (k := (i - 1) * 46 + 0) Try.runUnderlying53 rfl Try.sizeOf26 (h.ext (hE.trans hw)).1 (by rw [evl_len]; have := (List.getElem?_eq_some_iff.1 (hx (by simpa using hb))).1; omega) (cgA hg hb)) ?_
      refine Q_g2 rfl rfl (fun hg hb w hw => R_fieldEl (k := (i - 1) * 46 + 0 + 0) Try.runUnderlying26 rfl Try.sizeOf3 (h.ext (hE.trans hw)).1 (by rw [evl_len]; have := (List.getElem?_eq_some_iff.1 (hx (by simpa using hb))).1; omega) (cgA hg hb)) ?_
      refine Q_g2 rfl rfl (fun hg hb w hw => R_loadEl (u := i64 (x).a.vote.signer) (j := (i - 1) * 46 + 0 + 0 + 4) Try.isAgg3 (cgA hg hb) (h.ext (hE.trans hw)).1 ((congrArg _ (by omega)).trans ((evl_at (hx (by simpa using hb)) 4 (by omega)).trans rfl))) ?_
      refine Q_g2 rfl rfl (fun hg hb w hw => R_leqI (cgA hg hb) (cgA hg hb)) ?_
      refine Q_g1 rfl rfl (fun hb w hw => R_pickA (cgE hb) (cgD hb) rfl) ?_
      refine Q_v (fun w hw => R_pickO rfl rfl rfl) ?_
      refine Q_nil (fun w4 e13 => ?_)
      replace hE := hE.trans e13
      replace ho := ho.ext e13
      replace o11 := o11.ext e13
      refine T_tn ?_
      refine W_if rfl (fun c14 => ?_) (fun c14 => ?_)
      ·
        have hz := bld_fail hbl he (by rintro ⟨k1, k2⟩; have h1 := (prev_cmp hp hx k1).1 k2; simp [k1] at c14; omega)
        refine wp_seq ?_
        refine W_region ?_
        refine L (D_v (R_assign rfl) ?_)
        refine L (D_v (R_assign rfl) ?_)
        refine S_nil ?_
        refine T_tn ?_
        refine wp_ret ?_
        refine T_tr ?_
        refine T_br ?_
        refine T_tr ?_
        refine T_tr ?_
        refine T_br ?_
        refine T_tr ?_
        refine ret2 (v := (Value.slice none 0 0)) (v2 := .bool _) rfl rfl rfl ⟨_, rfl, hE, ?_⟩
        first | rw [build_none (.inl hfail)] | rw [build_none (.inr hz)]
        exact ⟨_, rfl, OwnB.nil _ _⟩
      ·
        have hk : okE e = true ∧ p < e.a.vote.signer := by cases hv : okE e with | false => simp [hv] at c14 | true => exact ⟨rfl, (prev_cmp hp hx hv).2 (by simp [hv] at c14; omega)⟩
        refine wp_skip ?_
        refine T_tn ?_
        refine W_region ?_
        refine L (D_v (R_move q4) ?_)
        refine L (D_v (R_move rfl) ?_)
        refine L (D_appendB elt5 Try.underlying31 rfl rfl ho o11.bs (by (try simp only [List.length_take, List.length_drop, List.length_append, List.length_cons, List.length_nil, Nm.b_len, be2_len]); omega) hE.size (fun v16 w5 o17 g15 => ?_))
        replace hE := hE.grown g15 (fun k hk => own_ge ho hk)
        refine L (D_v (R_assign rfl) ?_)
        refine S_nil ?_
        refine T_bn ?_
        refine T_tn ?_
        refine W_region ?_
        refine L (D_v (R_move q5) ?_)
        refine L (D_v (R_addN (m := i) (j := 1) rfl rfl (by (try simp only [List.length_take, List.length_drop, List.length_append, List.length_cons, List.length_nil, Nm.b_len, be2_len]); omega)) ?_)
        refine L (D_v (R_assign rfl) ?_)
        refine S_nil ?_
        refine T_tn ?_
        refine ⟨_, _, ?_, rfl, _, _, e.a.vote.signer, i + 1, rfl, q0, rfl, rfl, hE, o17, ?_, ?_, ?_, ?_⟩
        all_goals first | omega | exact bld_step hbl he hk.1 hk.2 | (simp only [List.length_append]; omega) | exact .inr ⟨by omega, e, he, rfl⟩
    ·
      have lk : ¬ i < es.length := by simpa using c7
      have hz := bld_end hbl lk
      refine wp_exit ?_
      refine T_te ?_
      refine T_te ?_
      refine T_be ?_
      refine T_tn ?_
      refine wp_seq ?_
      refine W_region ?_
      refine L (D_v (R_move q4) ?_)
      refine L (D_v (R_assign rfl) ?_)
      refine L (D_v (R_assign rfl) ?_)
      refine S_nil ?_
      refine T_tn ?_
      refine wp_ret ?_
      refine ret2 (v := r) (v2 := .bool _) rfl rfl rfl ⟨_, rfl, hE, ?_⟩
      rw [build_some hbd.1 hbd.2 hz]
      exact ⟨_, rfl, ho⟩
end Go.Proofs.Yteeopgpgbdhmhaa
namespace Go.Proofs.Yteeopgpgbdhmhaa
open Go.RowKit
set_option linter.unusedVariables false
set_option linter.unusedSimpArgs false
attribute [local irreducible] wpList wpO H wpQuiet wpStill Code.wp Exit.then Exit.inBlock bodyPost Code.rounds Calls valid lessV hless num between
set_option maxRecDepth 4000 in
set_option maxHeartbeats 1000000 in
theorem c45_0 (k : Int) (w : World) (hk : k = 2) : Calls Try.prog 45 [(Value.slice none 0 0), (Value.slice none 0 0)].toArray w (Ret w (.tuple #[i64 0, i64 k])) := by
  refine enter Try.func45 Try.ntmps45 rfl rfl ?_
  have hE := Ext.refl w
  refine wp_seq ?_
  refine W_region ?_
  refine L (D_v (R_assign rfl) ?_)
  refine L (D_v (R_assign rfl) ?_)
  refine S_nil ?_
  refine T_tn ?_
  refine W_scope 0 rfl ?_
  refine wp_seq ?_
  refine W_region ?_
  refine L (D_v (R_assign rfl) ?_)
  refine S_nil ?_
  refine T_tn ?_
  refine wp_seq ?_
  refine W_region ?_
  refine L (D_v (R_assign rfl) ?_)
  refine S_nil ?_
  refine T_tn ?_
  refine wp_seq ?_
  refine W_region ?_
  refine L (D_v (R_assign rfl) ?_)
  refine L (D_v (R_assign rfl) ?_)
  refine S_nil ?_
  refine T_tn ?_
  refine wp_seq ?_
  refine wp_seq ?_
  refine W_region ?_
  refine L (D_v (R_move rfl) ?_)
  refine L (D_v (R_cast (v' := i64 (0)) (R_len Try.underlying31 rfl (OwnB.nil w 0).bs) rfl) ?_)
  refine L (D_v (R_cast (v' := .bool true) (R_eqlI rfl rfl) rfl) ?_)
  refine S_nil ?_
  refine T_tn ?_
  refine W_ift rfl ?_
  refine wp_goto ?_
  refine T_tg ?_
  refine T_sg ?_
  refine wp_seq ?_
  refine wp_skip ?_
  refine T_tn ?_
  refine wp_seq ?_
  refine W_region ?_
  refine L (D_v (R_move rfl) ?_)
  refine L (D_v (R_assign rfl) ?_)
  refine L (D_v (R_assign rfl) ?_)
  refine S_nil ?_
  refine T_tn ?_
  refine wp_ret ?_
  refine T_sr ?_
  refine ret2 (v := .int _ _) (v2 := .int _ _) rfl rfl rfl ⟨?_, hE⟩
  subst hk; rfl
set_option maxRecDepth 4000 in
set_option maxHeartbeats 1000000 in
theorem c45_1 (v : Value) (z : UInt8) (k : Int) (w : World) (h : Bs w v [z]) (hz : z.toNat = 0) (hk : k = 4) : Calls Try.prog 45 [(Value.slice none 0 0), v].toArray w (Ret w (.tuple #[i64 0, i64 k])) := by
  refine enter Try.func45 Try.ntmps45 rfl rfl ?_
  have hE := Ext.refl w
  refine wp_seq ?_
  refine W_region ?_
  refine L (D_v (R_assign rfl) ?_)
  refine L (D_v (R_assign rfl) ?_)
  refine S_nil ?_
  refine T_tn ?_
  refine W_scope 0 rfl ?_
  refine wp_seq ?_
  refine W_region ?_
  refine L (D_v (R_assign rfl) ?_)
  refine S_nil ?_
  refine T_tn ?_
  refine wp_seq ?_
  refine W_region ?_
  refine L (D_v (R_assign rfl) ?_)
  refine S_nil ?_
  refine T_tn ?_
  refine wp_seq ?_
  refine W_region ?_
  refine L (D_v (R_assign rfl) ?_)
  refine L (D_v (R_assign rfl) ?_)
  refine S_nil ?_
  refine T_tn ?_
  refine wp_seq ?_
  refine wp_seq ?_
  refine W_region ?_
  refine L (D_v (R_move rfl) ?_)
  refine L (D_v (R_cast (v' := i64 (1)) (R_len Try.underlying31 rfl (h.ext hE)) rfl) ?_)
  refine L (D_v (R_cast (v' := .bool false) (R_eqlI rfl rfl) rfl) ?_)
  refine S_nil ?_
  refine T_tn ?_
  refine W_iff rfl ?_
  refine wp_skip ?_
  refine T_tn ?_
  refine wp_seq ?_
  refine W_region ?_
  refine L (D_v (R_move rfl) ?_)
  refine L (D_v (R_sliceLo (i := 1) Try.underlying31 Try.sizeOf5 rfl rfl (h.ext hE) (Nat.le_of_ble_eq_true rfl)) ?_)
  refine L (D_v (R_assign rfl) ?_)
  refine S_nil ?_
  refine T_tn ?_
  refine wp_seq ?_
  refine wp_seq ?_
  refine W_region ?_
  refine L (D_v (R_move rfl) ?_)
  refine L (D_v (R_elAddr (i := 0) Try.underlying31 Try.sizeOf5 rfl rfl (h.ext hE) (Nat.le_of_ble_eq_true rfl)) ?_)
  refine L (D_v (R_loadEl (u := u8 (z)) Try.isAgg5 rfl (h.ext hE) rfl) ?_)
  refine L (D_v (R_convU (b := z) Try.runUnderlying3 (by decide) rfl) ?_)
  refine L (D_v (R_assign rfl) ?_)
  refine S_nil ?_
  refine T_tn ?_
  refine wp_block ?_
  refine wp_seq ?_
  refine W_region ?_
  refine L (D_v (R_move rfl) ?_)
  refine L (D_v (R_eqlI rfl rfl) ?_)
  refine L (D_v (R_move rfl) ?_)
  refine L (D_g1 rfl rfl (fun hb => R_move rfl) ?_)
  refine L (D_g1 rfl rfl (fun hb => R_gtrI (cgE hb) rfl) ?_)
  refine L (D_v (R_pickO rfl rfl rfl) ?_)
  refine L (D_v (R_assign rfl) ?_)
  refine S_nil ?_
  refine T_tn ?_
  refine W_if rfl (fun c1 => ?_) (fun c1 => ?_)
  ·
    refine wp_seq ?_
    refine W_region ?_
    refine L (D_v (R_assign rfl) ?_)
    refine S_nil ?_
    refine T_tn ?_
    refine wp_goto ?_
    refine T_bg ?_
    refine T_tg ?_
    refine T_sg ?_
    refine wp_seq ?_
    refine wp_skip ?_
    refine T_tn ?_
    refine wp_seq ?_
    refine W_region ?_
    refine L (D_v (R_move rfl) ?_)
    refine L (D_v (R_assign rfl) ?_)
    refine L (D_v (R_assign rfl) ?_)
    refine S_nil ?_
    refine T_tn ?_
    refine wp_ret ?_
    refine T_sr ?_
    refine ret2 (v := .int _ _) (v2 := .int _ _) rfl rfl rfl ⟨?_, hE⟩
    subst hk; rfl
  ·
    simp [hz] at c1
set_option maxRecDepth 4000 in
set_option maxHeartbeats 1000000 in
theorem c44  (w : World) : Calls Try.prog 44 [].toArray w (Ret w (.bool true)) := by
  refine enter Try.func44 Try.ntmps44 rfl rfl ?_
  have hE := Ext.refl w
  obtain ⟨k2, hk2⟩ : ∃ k : Int, k = 2 := ⟨2, rfl⟩
  obtain ⟨k4, hk4⟩ : ∃ k : Int, k = 4 := ⟨4, rfl⟩
  refine wp_seq ?_
  refine W_region ?_
  refine L (D_v (R_assign rfl) ?_)
  refine S_nil ?_
  refine T_tn ?_
  refine wp_seq ?_
  refine W_region ?_
  refine L (D_call (R_callF Try.call45 rfl rfl) (c45_0 k2 _ hk2) (fun w1 e1 => ?_))
  replace hE := hE.trans e1
  refine L (D_v (R_move rfl) ?_)
  refine L (D_v (R_extract rfl rfl) ?_)
  refine L (D_v (R_extract rfl rfl) ?_)
  refine L (D_v (R_assign rfl) ?_)
  refine L (D_v (R_assign rfl) ?_)
  refine S_nil ?_
  refine T_tn ?_
  refine wp_seq ?_
  refine W_region ?_
  refine L (D_buildB (vs := [(0, u8 (0))]) (b := [0]) Try.underlying31 Try.sizeOf5 Try.zeroValue5 rfl (fillB1 _) rfl rfl rfl (fun v3 w2 o4 e2 => ?_))
  replace o4 := o4.lo hE.size
  replace hE := hE.trans e2
  refine L (D_call (R_callF Try.call45 rfl rfl) (c45_1 v3 0 k4 _ o4.bs rfl hk4) (fun w3 e5 => ?_))
  replace hE := hE.trans e5
  replace o4 := o4.ext e5
  refine L (D_v (R_move rfl) ?_)
  refine L (D_v (R_extract rfl rfl) ?_)
  refine L (D_v (R_extract rfl rfl) ?_)
  refine L (D_v (R_assign rfl) ?_)
  refine L (D_v (R_assign rfl) ?_)
  refine S_nil ?_
  refine T_tn ?_
  refine wp_seq ?_
  refine W_region ?_
  refine L (D_callE (R_callF Try.call42 rfl rfl) (c42 (.slice none 0 0) [] _ (Es.nil _)) (fun v7 w4 e6 p8 => ?_))
  obtain ⟨q10, rfl, o9⟩ := p8
  replace o9 := o9.lo hE.size
  replace hE := hE.trans e6
  replace o4 := o4.ext e6
  refine L (D_v (R_move rfl) ?_)
  refine L (D_v (R_extract rfl rfl) ?_)
  refine L (D_v (R_extract rfl rfl) ?_)
  refine L (D_v (R_assign rfl) ?_)
  refine L (D_v (R_assign rfl) ?_)
  refine S_nil ?_
  refine T_tn ?_
  refine wp_seq ?_
  refine W_region ?_
  refine L (D_v (R_move rfl) ?_)
  refine L (D_v (R_eqlI rfl rfl) ?_)
  refine L (D_v (R_move rfl) ?_)
  refine L (D_g1 rfl rfl (fun hb => R_move rfl) ?_)
  refine L (D_g1 rfl rfl (fun hb => R_eqlI (cgE hb) rfl) ?_)
  refine L (D_v (R_pickA rfl rfl rfl) ?_)
  refine L (D_v (R_move rfl) ?_)
  refine L (D_g1 rfl rfl (fun hb => R_move rfl) ?_)
  refine L (D_g1 rfl rfl (fun hb => R_not (cgE hb)) ?_)
  refine L (D_v (R_pickA rfl rfl rfl) ?_)
  refine L (D_v (R_assign rfl) ?_)
  refine S_nil ?_
  refine T_tn ?_
  refine wp_ret ?_
  refine ret1 (v := .bool _) rfl rfl ⟨congrArg (fun b => Ending.returned (Value.bool b)) ?_, hE⟩
  subst hk2 hk4; rfl
set_option maxRecDepth 4000 in
set_option maxHeartbeats 1000000 in
theorem c10 (v : Value) (es : List Ev) (w : World) (h : Es w v es) : Calls Try.prog 10 [v].toArray w (Ret w (.bool true)) := by
  refine enter Try.func10 Try.ntmps10 rfl rfl ?_
  have hE := Ext.refl w
  refine wp_seq ?_
  refine W_region ?_
  refine L (D_v (R_assign rfl) ?_)
  refine S_nil ?_
  refine T_tn ?_
  refine wp_seq ?_
  refine wp_seq ?_
  refine W_region ?_
  refine L (D_v (R_move rfl) ?_)
  refine L (D_v (R_len Try.underlying42 rfl (h.ext hE).1) ?_)
  refine L (D_v (R_gtrI rfl rfl) ?_)
  refine S_nil ?_
  refine T_tn ?_
  refine W_if rfl (fun c1 => ?_) (fun c1 => ?_)
  ·
    have hk : 30 ≤ es.length := by (generalize es.length = L at c1 ⊢; simp at c1; omega)
    refine W_region ?_
    refine L (D_v (R_move rfl) ?_)
    refine L (D_v (R_sliceHi (j := 30) Try.underlying42 Try.sizeOf55 rfl rfl (h.ext hE).1 hk) ?_)
    refine L (D_v (R_assign rfl) ?_)
    refine S_nil ?_
    refine T_tn ?_
    refine wp_seq ?_
    refine W_region ?_
    refine L (D_v (R_move rfl) ?_)
    refine L (D_callE (R_callF Try.call42 rfl rfl) (c42 (cutV v 46 0 30) ((es.take 30)) _ ((h.take 30 hk).ext hE)) (fun v3 w1 e2 p4 => ?_))
    obtain ⟨q6, rfl, o5⟩ := p4
    replace o5 := o5.lo hE.size
    replace hE := hE.trans e2
    refine L (D_v (R_move rfl) ?_)
    refine L (D_v (R_extract rfl rfl) ?_)
    refine L (D_v (R_extract rfl rfl) ?_)
    refine L (D_v (R_assign rfl) ?_)
    refine L (D_v (R_assign rfl) ?_)
    refine S_nil ?_
    refine T_tn ?_
    refine wp_seq ?_
    refine W_region ?_
    refine L (D_v (R_move rfl) ?_)
    refine L (D_callE (R_callF Try.call43 rfl rfl) (c43 (cutV v 46 0 30) ((es.take 30)) _ ((h.take 30 hk).ext hE)) (fun v8 w2 e7 p9 => ?_))
    obtain ⟨q11, rfl, o10⟩ := p9
    replace o10 := o10.lo hE.size
    replace hE := hE.trans e7
    replace o5 := o5.ext e7
    refine L (D_v (R_move rfl) ?_)
    refine L (D_v (R_extract rfl rfl) ?_)
    refine L (D_v (R_extract rfl rfl) ?_)
    refine L (D_v (R_assign rfl) ?_)
    refine L (D_v (R_assign rfl) ?_)
    refine S_nil ?_
    refine T_tn ?_
    refine wp_seq ?_
    refine W_region ?_
    refine L (D_v (R_move rfl) ?_)
    refine L (D_v (R_str (b := (build ((es.take 30))).1) rfl o5.bs) ?_)
    refine L (D_v (R_move rfl) ?_)
    refine L (D_v (R_str (b := (build ((es.take 30))).1) rfl o10.bs) ?_)
    refine L (D_v (R_eqlStr (a := (build ((es.take 30))).1) (b := (build ((es.take 30))).1) rfl rfl) ?_)
    refine L (D_v (R_move rfl) ?_)
    refine L (D_g1 rfl rfl (fun hb => R_move rfl) ?_)
    refine L (D_g1 rfl rfl (fun hb => R_move rfl) ?_)
    refine L (D_g1 rfl rfl (fun hb => R_eqlB Try.underlying4 (cgE hb) (cgE hb)) ?_)
    refine L (D_v (R_pickA rfl rfl rfl) ?_)
    refine L (D_v (R_move rfl) ?_)
    refine L (D_gc1 rfl rfl (fun hb => R_callF Try.call44 rfl rfl) (fun hb => c44 _) (fun w3 e12 => ?_))
    replace hE := hE.trans e12
    replace o5 := o5.ext e12
    replace o10 := o10.ext e12
    refine L (D_v (R_pickA rfl rfl rfl) ?_)
    refine L (D_v (R_assign rfl) ?_)
    refine S_nil ?_
    refine T_tn ?_
    refine wp_ret ?_
    refine ret1 (v := .bool _) rfl rfl ⟨congrArg (fun b => Ending.returned (Value.bool b)) ?_, hE⟩
    simp
  ·
    refine wp_skip ?_
    refine T_tn ?_
    refine wp_seq ?_
    refine W_region ?_
    refine L (D_v (R_move rfl) ?_)
    refine L (D_callE (R_callF Try.call42 rfl rfl) (c42 v (es) _ (h.ext hE)) (fun v14 w4 e13 p15 => ?_))
    obtain ⟨q17, rfl, o16⟩ := p15
    replace o16 := o16.lo hE.size
    replace hE := hE.trans e13
    refine L (D_v (R_move rfl) ?_)
    refine L (D_v (R_extract rfl rfl) ?_)
    refine L (D_v (R_extract rfl rfl) ?_)
    refine L (D_v (R_assign rfl) ?_)
    refine L (D_v (R_assign rfl) ?_)
    refine S_nil ?_
    refine T_tn ?_
    refine wp_seq ?_
    refine W_region ?_
    refine L (D_v (R_move rfl) ?_)
    refine L (D_callE (R_callF Try.call43 rfl rfl) (c43 v (es) _ (h.ext hE)) (fun v19 w5 e18 p20 => ?_))
    obtain ⟨q22, rfl, o21⟩ := p20
    replace o21 := o21.lo hE.size
    replace hE := hE.trans e18
    replace o16 := o16.ext e18
    refine L (D_v (R_move rfl) ?_)
    refine L (D_v (R_extract rfl rfl) ?_)
    refine L (D_v (R_extract rfl rfl) ?_)
    refine L (D_v (R_assign rfl) ?_)
    refine L (D_v (R_assign rfl) ?_)
    refine S_nil ?_
    refine T_tn ?_
    refine wp_seq ?_
    refine W_region ?_
    refine L (D_v (R_move rfl) ?_)
    refine L (D_v (R_str (b := (build (es)).1) rfl o16.bs) ?_)
    refine L (D_v (R_move rfl) ?_)
    refine L (D_v (R_str (b := (build (es)).1) rfl o21.bs) ?_)
    refine L (D_v (R_eqlStr (a := (build (es)).1) (b := (build (es)).1) rfl rfl) ?_)
    refine L (D_v (R_move rfl) ?_)
    refine L (D_g1 rfl rfl (fun hb => R_move rfl) ?_)
    refine L (D_g1 rfl rfl (fun hb => R_move rfl) ?_)
    refine L (D_g1 rfl rfl (fun hb => R_eqlB Try.underlying4 (cgE hb) (cgE hb)) ?_)
    refine L (D_v (R_pickA rfl rfl rfl) ?_)
    refine L (D_v (R_move rfl) ?_)
    refine L (D_gc1 rfl rfl (fun hb => R_callF Try.call44 rfl rfl) (fun hb => c44 _) (fun w6 e23 => ?_))
    replace hE := hE.trans e23
    replace o16 := o16.ext e23
    replace o21 := o21.ext e23
    refine L (D_v (R_pickA rfl rfl rfl) ?_)
    refine L (D_v (R_assign rfl) ?_)
    refine S_nil ?_
    refine T_tn ?_
    refine wp_ret ?_
    refine ret1 (v := .bool _) rfl rfl ⟨congrArg (fun b => Ending.returned (Value.bool b)) ?_, hE⟩
    simp
end Go.Proofs.Yteeopgpgbdhmhaa
namespace Go.Proofs.Yteeopgpgbdhmhaa
open Go.RowKit
set_option linter.unusedVariables false
set_option linter.unusedSimpArgs false
attribute [local irreducible] wpList wpO H wpQuiet wpStill Code.wp Exit.then Exit.inBlock bodyPost Code.rounds Calls valid lessV hless num between
set_option maxRecDepth 4000 in
set_option maxHeartbeats 1000000 in
theorem c98_2  (w : World) : Calls Try.prog 98 [i64 2].toArray w (Ret w (i64 1024)) := by
  refine enter Try.func98 Try.ntmps98 rfl rfl ?_
  have hE := Ext.refl w
  refine wp_seq ?_
  refine W_region ?_
  refine L (D_v (R_assign rfl) ?_)
  refine S_nil ?_
  refine T_tn ?_
  refine wp_seq ?_
  refine W_region ?_
  refine L (D_v (R_assign rfl) ?_)
  refine S_nil ?_
  refine T_tn ?_
  refine wp_seq ?_
  refine wp_seq ?_
  refine W_region ?_
  refine L (D_v (R_move rfl) ?_)
  refine S_nil ?_
  refine T_tn ?_
  refine wp_block ?_
  refine wp_seq ?_
  refine wp_block ?_
  refine wp_seq ?_
  refine wp_block ?_
  refine wp_seq ?_
  refine wp_block ?_
  refine wp_seq ?_
  refine wp_seq ?_
  refine wp_seq ?_
  refine W_region ?_
  refine L (D_v (R_cast (v' := .bool true) (R_eqlI rfl rfl) rfl) ?_)
  refine L (D_v (R_assign rfl) ?_)
  refine S_nil ?_
  refine T_tn ?_
  refine W_ift rfl ?_
  refine wp_exit ?_
  refine T_te ?_
  refine T_te ?_
  refine T_be ?_
  refine T_tn ?_
  refine W_region ?_
  refine L (D_v (R_move rfl) ?_)
  refine L (D_v (R_cast (v' := .int .i64 (32)) (R_mulI rfl rfl) rfl) ?_)
  refine L (D_v (R_assign rfl) ?_)
  refine S_nil ?_
  refine T_bn ?_
  refine T_tn ?_
  refine wp_seq ?_
  refine W_region ?_
  refine L (D_v (R_move rfl) ?_)
  refine L (D_v (R_cast (v' := .int .i64 (1024)) (R_mulI rfl rfl) rfl) ?_)
  refine L (D_v (R_assign rfl) ?_)
  refine S_nil ?_
  refine T_tn ?_
  refine wp_exit ?_
  refine T_bx rfl ?_
  refine T_te ?_
  refine T_be ?_
  refine T_tn ?_
  refine wp_seq ?_
  refine W_region ?_
  refine L (D_v (R_move rfl) ?_)
  refine L (D_v (R_assign rfl) ?_)
  refine S_nil ?_
  refine T_tn ?_
  refine wp_ret ?_
  refine ret1 (v := .int _ _) rfl rfl ⟨?_, hE⟩
  rfl
end Go.Proofs.Yteeopgpgbdhmhaa
namespace Go.Proofs.Yteeopgpgbdhmhaa
open Go.RowKit
set_option linter.unusedVariables false
set_option linter.unusedSimpArgs false
attribute [local irreducible] lessP ltB wpList wpO H wpQuiet wpStill Code.wp Exit.then Exit.inBlock bodyPost Code.rounds Calls valid lessV hless num between
set_option maxRecDepth 4000 in
set_option maxHeartbeats 2000000 in
theorem c95 {α : Type} {S : (Nat → α) → World → Prop} {gB n : Nat} {lf sf : Value} {lt : α → α → Bool} (hR : Srt Try.prog S gB n lf sf lt) (f : Nat → α) (p : Option Addr) (c : Nat) (w : World) (hG : S f w) (hsw : isSw (.slice p n c) sf) : Calls Try.prog 95 [.iface 46 (.slice p n c), lf].toArray w (RetS gB w fun w2 => ∃ f', S f' w2 ∧ Mv f f' 0 n ∧ srt lt f' 0 n) := by
  refine enter Try.func95 Try.ntmps95 rfl rfl ?_
  have hE := Chg.refl gB w
  have hnb := hR.nb
  have hlp := hR.lp
  have hsp := hR.sp
  have hX := Ext.refl w
  have hG0 := hG
  refine wp_seq ?_
  refine W_region ?_
  refine L (D_v (R_move rfl) ?_)
  refine L (D_valueOf rfl (fun aBV w1_1 e1_1 gBV hBV => ?_))
  have lBV := Nat.le_trans hE.size gBV
  have nGBV := Nat.ne_of_lt (Nat.lt_of_lt_of_le (hR.bound _ _ hG) gBV)
  replace hE := hE.trans e1_1
  replace hX := hX.trans e1_1
  replace hG := hR.ext _ _ _ hG e1_1
  refine L (D_alloc Try.zeroValue139 rfl (fun aB1_2 w1_2 e1_2 gB1_2 hB1_2 => ?_))
  have lB1_2 := Nat.le_trans hE.size gB1_2
  have nGB1_2 := Nat.ne_of_lt (Nat.lt_of_lt_of_le (hR.bound _ _ hG) gB1_2)
  have nBVB1_2 := hBV.ne gB1_2
  replace hE := hE.trans e1_2
  replace hX := hX.trans e1_2
  replace hG := hR.ext _ _ _ hG e1_2
  replace hBV := hBV.ext e1_2
  have h0 := hB1_2
  refine L (D_storeA Try.sizeOf139 hB1_2 rfl rfl rfl rfl rfl (l' := [typeHandle Try.prog 46, .pointer (some ⟨aBV, 0, none⟩), .int .u64 (151)]) rfl (fun w1_3 k1_3 hB1_2 => ?_))
  replace hE := hE.kpo k1_3 lB1_2
  replace hX := hX.kp k1_3 lB1_2
  replace hG := hR.ext _ _ _ hG0 hX
  replace hBV := hBV.kp k1_3 nBVB1_2
  refine S_nil ?_
  refine T_tn ?_
  refine wp_seq ?_
  refine W_region ?_
  refine L (D_v (R_move rfl) ?_)
  refine L (D_v (R_callX ext125 rfl rfl (hsw _)) ?_)
  refine L (D_v (R_assign rfl) ?_)
  refine S_nil ?_
  refine T_tn ?_
  refine W_region ?_
  refine L (D_v (R_move rfl) ?_)
  refine L (D_v (R_move rfl) ?_)
  refine L (D_v (R_buildS (vs := [(0, lf), (1, sf)]) (c := [lf, sf]) Try.runUnderlying145 places145 Try.zeroValue145 (mapp2 rfl rfl) (fill145 hlp hsp)) ?_)
  refine L (D_v (R_loadA (c := [typeHandle Try.prog 46, .pointer (some ⟨aBV, 0, none⟩), .int .u64 (151)]) Try.isAgg139 Try.sizeOf139 hB1_2 rfl rfl rfl) ?_)
  refine L (D_valueLen rfl hBV ?_)
  refine L (D_callS (R_callF Try.call126 rfl rfl) (c126 hR (f) _ hG) (fun w3_5 p3_5 => ?_))
  obtain ⟨e3_5, h3_5, hG, q3_5⟩ := p3_5
  replace hE := hE.chg e3_5
  replace hBV := hBV.chg e3_5 nGBV.symm
  replace hB1_2 := hB1_2.chg e3_5 nGB1_2.symm
  refine S_nil ?_
  refine ret0n rfl ⟨rfl, hE, ?_⟩
  exact ⟨_, hG, q3_5⟩
set_option maxRecDepth 4000 in
set_option maxHeartbeats 1000000 in
theorem c99 (u v : Value) (a b : List UInt8) (w : World) (ha : Bs w u a) (hb : Bs w v b) : Calls Try.prog 99 [u, v].toArray w (Ret w (i64 (Go.Lib.compareBytes a b))) := by
  refine enter Try.func99 Try.ntmps99 rfl rfl ?_
  have hE := Ext.refl w
  refine wp_seq ?_
  refine W_region ?_
  refine L (D_v (R_assign rfl) ?_)
  refine S_nil ?_
  refine T_tn ?_
  refine wp_seq ?_
  refine W_region ?_
  refine L (D_v (R_move rfl) ?_)
  refine L (D_v (R_move rfl) ?_)
  refine L (D_v (R_callX ext132 rfl rfl (run_compare (a := a) (b := b) (ha.ext hE) (hb.ext hE))) ?_)
  refine L (D_v (R_assign rfl) ?_)
  refine S_nil ?_
  refine T_tn ?_
  refine wp_ret ?_
  refine ret1 (v := .int _ _) rfl rfl ⟨?_, hE⟩
  rfl
set_option maxRecDepth 4000 in
set_option maxHeartbeats 1000000 in
theorem c61 (x y : Sg) (w : World) (hx : x.okf w.heap.size w) (hy : y.okf w.heap.size w) : Calls Try.prog 61 [x.v, y.v].toArray w (Ret w (.bool (lessP x.p y.p))) := by
  refine enter Try.func61 Try.ntmps61 rfl rfl ?_
  have hE := Ext.refl w
  refine wp_seq ?_
  refine W_region ?_
  refine L (D_box (c := (x).l) (rfl) (fun aB1_0 w1_0 e1_0 gB1_0 hB1_0 => ?_))
  have lB1_0 := Nat.le_trans hE.size gB1_0
  replace hE := hE.trans e1_0
  refine L (D_box (c := (y).l) (rfl) (fun aB1_1 w1_1 e1_1 gB1_1 hB1_1 => ?_))
  have lB1_1 := Nat.le_trans hE.size gB1_1
  have nB1_0B1_1 := hB1_0.ne gB1_1
  replace hE := hE.trans e1_1
  replace hB1_0 := hB1_0.ext e1_1
  refine L (D_v (R_assign rfl) ?_)
  refine S_nil ?_
  refine T_tn ?_
  refine wp_seq ?_
  refine wp_seq ?_
  refine W_region ?_
  refine L (D_v (R_fieldAddr Try.runUnderlying53 rfl Try.sizeOf26 rfl) ?_)
  refine L (D_v (R_loadA (c := ((x).vote).l) Try.isAgg26 Try.sizeOf26 hB1_0 rfl rfl rfl) ?_)
  refine L (D_v (R_fieldAddr Try.runUnderlying53 rfl Try.sizeOf26 rfl) ?_)
  refine L (D_v (R_loadA (c := ((y).vote).l) Try.isAgg26 Try.sizeOf26 hB1_1 rfl rfl rfl) ?_)
  refine L (D_v (R_neqA Try.eqGuardType26 (eq26 ((x).vote) ((y).vote) _) rfl rfl) ?_)
  refine S_nil ?_
  refine T_tn ?_
  refine W_if rfl (fun c1 => ?_) (fun c1 => ?_)
  ·
    have hne : (x).p.1 ≠ (y).p.1 := (show ¬ (x).vote = (y).vote by simpa using c1)
    refine wp_seq ?_
    refine W_region ?_
    refine L (D_v (R_fieldAddr Try.runUnderlying53 rfl Try.sizeOf26 rfl) ?_)
    refine L (D_v (R_loadA (c := ((x).vote).l) Try.isAgg26 Try.sizeOf26 hB1_0 rfl rfl rfl) ?_)
    refine L (D_v (R_fieldAddr Try.runUnderlying53 rfl Try.sizeOf26 rfl) ?_)
    refine L (D_v (R_loadA (c := ((y).vote).l) Try.isAgg26 Try.sizeOf26 hB1_1 rfl rfl rfl) ?_)
    refine L (D_call (R_callF Try.call33 rfl rfl) (c33 ((x).vote) ((y).vote) _ ) (fun w3_4 e3_4 => ?_))
    replace hE := hE.trans e3_4
    replace hB1_0 := hB1_0.ext e3_4
    replace hB1_1 := hB1_1.ext e3_4
    refine L (D_v (R_assign rfl) ?_)
    refine S_nil ?_
    refine T_tn ?_
    refine wp_ret ?_
    refine T_tr ?_
    refine ret1 (v := .bool _) rfl rfl ⟨?_, hE⟩
    rw [lessP_ne hne]; rfl
  ·
    have hne : (x).p.1 = (y).p.1 := (show (x).vote = (y).vote by simpa using c1)
    refine wp_skip ?_
    refine T_tn ?_
    refine wp_seq ?_
    refine W_region ?_
    refine L (D_v (R_fieldAddr Try.runUnderlying53 rfl Try.sizeOf31 rfl) ?_)
    refine L (D_v (R_load Try.isAgg31 hB1_0 rfl rfl) ?_)
    refine L (D_v (R_fieldAddr Try.runUnderlying53 rfl Try.sizeOf31 rfl) ?_)
    refine L (D_v (R_load Try.isAgg31 hB1_1 rfl rfl) ?_)
    refine L (D_call (R_callF Try.call99 rfl rfl) (c99 (.slice (x).A (x).n (x).c) (.slice (y).A (y).n (y).c) ((x).sig) ((y).sig) _ (hx.fb (Fb.ext hE)).bs (hy.fb (Fb.ext hE)).bs) (fun w3_4 e3_4 => ?_))
    replace hE := hE.trans e3_4
    replace hB1_0 := hB1_0.ext e3_4
    replace hB1_1 := hB1_1.ext e3_4
    refine L (D_v (R_lssI rfl rfl) ?_)
    refine L (D_v (R_assign rfl) ?_)
    refine S_nil ?_
    refine T_tn ?_
    refine wp_ret ?_
    refine ret1 (v := .bool _) rfl rfl ⟨?_, hE⟩
    rw [lessP_eq hne]; exact congrArg (fun z => Ending.returned (Value.bool z)) (ltB_cmp _ _)
set_option maxRecDepth 4000 in
set_option maxHeartbeats 2000000 in
theorem c96 (lo : Nat) (i j aB0 : Nat) (v : Value) (xs : List Sg) (w : World) (hlo : lo ≤ w.heap.size) (hT : Blk w aB0 [v] 46) (h : Ls cS lo w v xs) (hi : i < xs.length) (hj : j < xs.length) : Calls Try.prog 96 [i64 ((i : Nat) : Int), i64 ((j : Nat) : Int), .pointer (some ⟨aB0, 0, none⟩)].toArray w (Ret w (.bool (lessP (xs.getD i Sg.zero).p (xs.getD j Sg.zero).p))) := by
  refine enter Try.func96 Try.ntmps96 rfl rfl ?_
  have hE := Ext.refl w
  refine wp_seq ?_
  refine W_region ?_
  refine L (D_v (R_assign rfl) ?_)
  refine S_nil ?_
  refine T_tn ?_
  refine wp_seq ?_
  refine W_draw mixed (by kernel_rfl) ?_
  refine Q_v (fun w hw => R_load Try.isAgg46 (hT.ext hw) rfl rfl) ?_
  refine Q_v (fun w hw => R_move rfl) ?_
  refine Q_v (fun w hw => R_elAddr (i := i) Try.underlying46 Try.sizeOf53 rfl rfl (h.ext (hE.trans hw)).1 (by (try simp only [List.length_take, List.length_drop, List.length_append, List.length_cons, List.length_nil, List.length_replicate, List.length_set, Nm.b_len, be2_len]); omega)) ?_
  refine Q_v (fun w hw => R_ldL (C := cS) (i := i) (y := ((xs).getD (i) Sg.zero)) Try.isAgg53 Try.sizeOf53 rfl (h.ext (hE.trans hw)) (getD_some (d := Sg.zero) (by (try simp only [List.length_take, List.length_drop, List.length_append, List.length_cons, List.length_nil, List.length_replicate, List.length_set, Nm.b_len, be2_len]); omega))) ?_
  refine Q_v (fun w hw => R_load Try.isAgg46 (hT.ext hw) rfl rfl) ?_
  refine Q_v (fun w hw => R_move rfl) ?_
  refine Q_v (fun w hw => R_elAddr (i := j) Try.underlying46 Try.sizeOf53 rfl rfl (h.ext (hE.trans hw)).1 (by (try simp only [List.length_take, List.length_drop, List.length_append, List.length_cons, List.length_nil, List.length_replicate, List.length_set, Nm.b_len, be2_len]); omega)) ?_
  refine Q_v (fun w hw => R_ldL (C := cS) (i := j) (y := ((xs).getD (j) Sg.zero)) Try.isAgg53 Try.sizeOf53 rfl (h.ext (hE.trans hw)) (getD_some (d := Sg.zero) (by (try simp only [List.length_take, List.length_drop, List.length_append, List.length_cons, List.length_nil, List.length_replicate, List.length_set, Nm.b_len, be2_len]); omega))) ?_
  refine Q_call (fun w hw => R_callF Try.call61 rfl rfl) (fun w hw => c61 (((xs).getD (i) Sg.zero)) (((xs).getD (j) Sg.zero)) _ (((h.get (getD_some (d := Sg.zero) (by (try simp only [List.length_take, List.length_drop, List.length_append, List.length_cons, List.length_nil, List.length_replicate, List.length_set, Nm.b_len, be2_len]); omega))).fb (Fb.ext (hE.trans hw))).up (Nat.le_trans hlo (hE.trans hw).size)) (((h.get (getD_some (d := Sg.zero) (by (try simp only [List.length_take, List.length_drop, List.length_append, List.length_cons, List.length_nil, List.length_replicate, List.length_set, Nm.b_len, be2_len]); omega))).fb (Fb.ext (hE.trans hw))).up (Nat.le_trans hlo (hE.trans hw).size))) ?_
  refine Q_v (fun w hw => R_assign rfl) ?_
  refine Q_nil (fun w2_99 e2_99 => ?_)
  replace hE := hE.trans e2_99
  replace hT := hT.ext e2_99
  refine T_tn ?_
  refine wp_ret ?_
  refine ret1 (v := .bool _) rfl rfl ⟨congrArg (fun b => Ending.returned (Value.bool b)) ?_, hE⟩
  exact rfl
end Go.Proofs.Yteeopgpgbdhmhaa
namespace Go.Proofs.Yteeopgpgbdhmhaa
open Go.RowKit Go.Lib
set_option linter.unusedVariables false
set_option linter.unusedSimpArgs false
def srtL (xs : List Sg) : Prop := ∀ (i j : Nat) (x y : Sg), i < j → xs[i]? = some x → xs[j]? = some y → lessP y.p x.p = false
def ltS (a b : Sg) : Bool := lessP a.p b.p
theorem ordS : Ordd ltS := sto_P.ord.pull Sg.p
def Sorted46 (lo lk : Nat) (v : Value) (xs : List Sg) (w w' : World) : Prop :=
  w.grownBy w' v.ownBlock ∧ Fb lo w w' ∧ ∃ xs', Ow cS lo lk w' v xs' ∧ xs'.length = xs.length ∧ (∀ p, p ∈ xs'.map Sg.p ↔ p ∈ xs.map Sg.p) ∧ srtL xs'
theorem lsf_getD {n i : Nat} (f : Nat → Sg) (h : i < n) : (lsf n f).getD i Sg.zero = f i := by rw [List.getD_eq_getElem?_getD, lsf_at f h]; rfl
theorem lsf_of (xs : List Sg) : lsf xs.length (fun k => xs.getD k Sg.zero) = xs := by
  apply List.ext_getElem?
  intro k
  by_cases hk : k < xs.length
  · rw [lsf_at _ hk, List.getD_eq_getElem?_getD, List.getElem?_eq_getElem hk]; rfl
  · rw [List.getElem?_eq_none (by rw [lsf_len]; omega), List.getElem?_eq_none (by omega)]
theorem swp_same {α : Type} (f : Nat → α) (i : Nat) : swp f i i = f := by
  funext k; unfold swp; split
  · rename_i h; rw [h]
  · rfl
theorem cv_less {g n cap aT lo : Nat} {tl : List Value} {f : Nat → Sg} {W : World} (h : RowS g n cap aT lo tl f W) (hc : n ≤ cap) (hm : cap ≤ 9223372036854775807) (hlo : lo ≤ g) {i j : Nat} (hi : i < n) (hj : j < n) :
    CV Try.prog (.func (.func 96) #[] #[.pointer (some ⟨aT, 0, none⟩)]) [i64 (i : Int), i64 (j : Int)] W (fun v W' => v = .bool (ltS (f i) (f j)) ∧ Ext W W') := by
  refine ⟨96, _, rfl, .inl ⟨Try.call96 _ _, ?_⟩⟩
  have := c96 lo i j aT (.slice (some ⟨g, 0, none⟩) n cap) (lsf n f) W (Nat.le_trans hlo (Nat.le_of_lt h.row.lt)) h.cell (h.ls hc hm) (by rw [lsf_len]; exact hi) (by rw [lsf_len]; exact hj)
  refine this.mono ?_
  rintro e W' ⟨rfl, hE⟩
  rw [lsf_getD f hi, lsf_getD f hj]
  exact ⟨_, rfl, rfl, hE⟩
theorem srt_many {g n cap aT lo : Nat} (tl : List Value) (hc : n ≤ cap) (hm : cap ≤ 9223372036854775807) (hlo : lo ≤ g) (hn : n ≤ 1000000) (hk : 2 ≤ n) :
    Srt Try.prog (RowS g n cap aT lo tl) g n (.func (.func 96) #[] #[.pointer (some ⟨aT, 0, none⟩)]) (.func (.func 154) #[] #[.slice (some ⟨g, 0, none⟩) n cap, typeHandle Try.prog 53]) ltS where
  ord := ordS
  lp := rfl
  sp := rfl
  nb := hn
  bound := fun f W h => h.row.lt
  ext := fun f W W' h e => h.ext e
  less := fun f W i j h hi hj => cv_less h hc hm hlo hi hj
  swap := fun f W i j h hi hj => by
    obtain ⟨W', h1, h2, h3⟩ := run_swapS h hlo hi hj
    refine ⟨154, _, rfl, .inr ⟨.tuple #[], W', ?_, rfl, h2, h3⟩⟩
    have e : ([i64 (i : Int), i64 (j : Int)].toArray ++ #[Value.slice (some ⟨g, 0, none⟩) n cap, typeHandle Try.prog 53]) = #[.int .i64 (i : Int), .int .i64 (j : Int), .slice (some ⟨g, 0, none⟩) n cap, typeHandle Try.prog 53] := rfl
    rw [e, ext154, h1]
    rfl
theorem srt_one {g cap aT lo : Nat} (tl : List Value) (hc : 1 ≤ cap) (hm : cap ≤ 9223372036854775807) (hlo : lo ≤ g) :
    Srt Try.prog (RowS g 1 cap aT lo tl) g 1 (.func (.func 96) #[] #[.pointer (some ⟨aT, 0, none⟩)]) (.func (.func 147) #[] #[]) ltS where
  ord := ordS
  lp := rfl
  sp := rfl
  nb := by decide
  bound := fun f W h => h.row.lt
  ext := fun f W W' h e => h.ext e
  less := fun f W i j h hi hj => cv_less h hc hm hlo hi hj
  swap := fun f W i j h hi hj => by
    obtain rfl : i = 0 := by omega
    obtain rfl : j = 0 := by omega
    refine ⟨147, _, rfl, .inr ⟨.tuple #[], W, ?_, rfl, Chg.refl _ _, by rw [swp_same]; exact h⟩⟩
    rw [ext147]
    rfl
theorem srt_zero {g cap aT lo : Nat} (tl : List Value) : Srt Try.prog (RowS g 0 cap aT lo tl) g 0 (.func (.func 96) #[] #[.pointer (some ⟨aT, 0, none⟩)]) (.func (.func 146) #[] #[]) ltS where
  ord := ordS
  lp := rfl
  sp := rfl
  nb := by decide
  bound := fun f W h => h.row.lt
  ext := fun f W W' h e => h.ext e
  less := fun f W i j h hi hj => by omega
  swap := fun f W i j h hi hj => by omega
theorem srt_nil {aT : Nat} : Srt Try.prog (fun (_ : Nat → Sg) W => Blk W aT [.slice none 0 0] 46) aT 0 (.func (.func 96) #[] #[.pointer (some ⟨aT, 0, none⟩)]) (.func (.func 146) #[] #[]) ltS where
  ord := ordS
  lp := rfl
  sp := rfl
  nb := by decide
  bound := fun f W h => h.lt
  ext := fun f W W' h e => h.ext e
  less := fun f W i j h hi hj => by omega
  swap := fun f W i j h hi hj => by omega
theorem sort46_of {g n cap aT lo lk : Nat} {tl : List Value} {f : Nat → Sg} {w : World} {sf : Value} (hg : lk ≤ g) (hll : lo ≤ lk) (hc : n ≤ cap) (hm : cap ≤ maxLen) (htl : tl.length = cap * 23 - n * 23) (hS : RowS g n cap aT lo tl f w)
    (hR : Srt Try.prog (RowS g n cap aT lo tl) g n (.func (.func 96) #[] #[.pointer (some ⟨aT, 0, none⟩)]) sf ltS) (hsw : isSw (.slice (some ⟨g, 0, none⟩) n cap) sf) :
    Calls Try.prog 95 [.iface 46 (.slice (some ⟨g, 0, none⟩) n cap), .func (.func 96) #[] #[.pointer (some ⟨aT, 0, none⟩)]].toArray w (fun e w' => e = .returned (.tuple #[]) ∧ Sorted46 lo lk (.slice (some ⟨g, 0, none⟩) n cap) (lsf n f) w w') := by
  refine (c95 hR f (some ⟨g, 0, none⟩) cap w hS hsw).mono ?_
  rintro e w' ⟨rfl, hch, f', hS', hmv, hsr⟩
  have hfb : Fb lo w w' := Fb.chg hch (Nat.le_trans hll hg) (Blk.notB hS.row rfl)
  refine ⟨rfl, ⟨hch.os, hch.tape, hch.output, hch.size, fun k hk hne => hch.block k hk (fun e => hne (by rw [e]; rfl))⟩, hfb, lsf n f', ⟨?_, fun x hx => ?_⟩, by rw [lsf_len, lsf_len], fun p => ?_, ?_⟩
  · have hcl : (cS.cs (lsf n f')).length = n * 23 := by rw [cs_len, lsf_len]; rfl
    have hle : n * 23 ≤ cap * 23 := Nat.mul_le_mul_right _ hc
    rw [lsf_len]
    refine ⟨hcl, .inr ⟨g, cap, _, rfl, hg, hS'.row, hc, hm, ?_, ?_⟩⟩
    · show (cS.cs (lsf n f') ++ tl).toArray.size = cap * 23
      rw [List.size_toArray, List.length_append, hcl, htl]; omega
    · exact List.take_left' hcl
  · obtain ⟨k, hk⟩ := List.getElem?_of_mem hx
    have hkn : k < n := by have := (List.getElem?_eq_some_iff.1 hk).1; rwa [lsf_len] at this
    rw [lsf_at f' hkn] at hk; cases hk; exact hS'.ok k hkn
  · constructor
    · intro hp
      obtain ⟨x, hx, rfl⟩ := List.mem_map.1 hp
      obtain ⟨k, hk⟩ := List.getElem?_of_mem hx
      have hkn : k < n := by have := (List.getElem?_eq_some_iff.1 hk).1; rwa [lsf_len] at this
      rw [lsf_at f' hkn] at hk; cases hk
      obtain ⟨j, _, hj, e⟩ := hmv.to k (Nat.zero_le _) hkn
      exact List.mem_map.2 ⟨f j, List.mem_of_getElem? (lsf_at f hj), by rw [e]⟩
    · intro hp
      obtain ⟨x, hx, rfl⟩ := List.mem_map.1 hp
      obtain ⟨k, hk⟩ := List.getElem?_of_mem hx
      have hkn : k < n := by have := (List.getElem?_eq_some_iff.1 hk).1; rwa [lsf_len] at this
      rw [lsf_at f hkn] at hk; cases hk
      obtain ⟨j, _, hj, e⟩ := hmv.fro k (Nat.zero_le _) hkn
      exact List.mem_map.2 ⟨f' j, List.mem_of_getElem? (lsf_at f' hj), by rw [e]⟩
  · intro i j x y hij hx hy
    have hjn : j < n := by have := (List.getElem?_eq_some_iff.1 hy).1; rwa [lsf_len] at this
    rw [lsf_at f' (by omega)] at hx
    rw [lsf_at f' hjn] at hy
    cases hx; cases hy
    exact hsr i j (Nat.zero_le _) hij hjn
theorem sort46 {lo lk aT : Nat} {v : Value} {xs : List Sg} {w : World} (hO : Ow cS lo lk w v xs) (hll : lo ≤ lk) (hT : Blk w aT [v] 46) (hn : xs.length ≤ 1000000) :
    Calls Try.prog 95 [.iface 46 v, .func (.func 96) #[] #[.pointer (some ⟨aT, 0, none⟩)]].toArray w (fun e w' => e = .returned (.tuple #[]) ∧ Sorted46 lo lk v xs w w') := by
  obtain ⟨⟨hl, ⟨rfl, h0⟩ | ⟨g, cap, cur, rfl, hg, hb, h1, h2, h3, h4⟩⟩, hok⟩ := hO
  · obtain rfl : xs = [] := List.eq_nil_of_length_eq_zero h0
    refine (c95 srt_nil (fun _ => Sg.zero) none 0 w hT (isSw_zero none 0)).mono ?_
    rintro e w' ⟨rfl, hch, f', hS', _, _⟩
    have hblk : ∀ k, k < w.heap.size → w'.heap[k]? = w.heap[k]? := fun k hk => by
      by_cases e : k = aT
      · subst e
        have e1 : w'.heap[k]? = _ := hS'
        have e2 : w.heap[k]? = _ := hT
        rw [e1, e2]
      · exact hch.block k hk e
    have hx : Ext w w' := ⟨hch.os, hch.tape, hch.output, hch.size, hblk⟩
    exact ⟨rfl, ⟨hch.os, hch.tape, hch.output, hch.size, fun k hk _ => hblk k hk⟩, Fb.ext hx, [], Ow.nil _ _ _ _, rfl, fun _ => Iff.rfl, fun i j x y _ hx => by simp at hx⟩
  · have hB : Blk w g cur.toList 53 := by
      have hb' : w.heap[g]? = some (.cells cur 53 (0, 0)) := hb
      simpa [Blk] using hb'
    have h3' : cur.size = cap * 23 := h3
    have h4' : cur.toList.take (xs.length * 23) = cS.cs xs := h4
    have hcat : cur.toList = cS.cs (lsf xs.length (fun k => xs.getD k Sg.zero)) ++ cur.toList.drop (xs.length * 23) := by rw [lsf_of, ← h4', List.take_append_drop]
    rw [hcat] at hB
    have hS : RowS g xs.length cap aT lo (cur.toList.drop (xs.length * 23)) (fun k => xs.getD k Sg.zero) w := ⟨hB, hT, fun k hk => hok _ (by
      show xs.getD k Sg.zero ∈ xs
      rw [List.getD_eq_getElem?_getD, List.getElem?_eq_getElem hk]; exact List.getElem_mem hk)⟩
    have hm : cap ≤ 9223372036854775807 := h2
    have htl : (cur.toList.drop (xs.length * 23)).length = cap * 23 - xs.length * 23 := by rw [List.length_drop]; simp [h3']
    have key : ∀ sf, Srt Try.prog (RowS g xs.length cap aT lo (cur.toList.drop (xs.length * 23))) g xs.length (.func (.func 96) #[] #[.pointer (some ⟨aT, 0, none⟩)]) sf ltS → isSw (.slice (some ⟨g, 0, none⟩) xs.length cap) sf →
        Calls Try.prog 95 [.iface 46 (.slice (some ⟨g, 0, none⟩) xs.length cap), .func (.func 96) #[] #[.pointer (some ⟨aT, 0, none⟩)]].toArray w (fun e w' => e = .returned (.tuple #[]) ∧ Sorted46 lo lk (.slice (some ⟨g, 0, none⟩) xs.length cap) xs w w') := by
      intro sf hR hsw
      have := sort46_of hg hll h1 h2 htl hS hR hsw
      rwa [lsf_of] at this
    rcases Nat.lt_or_ge xs.length 2 with hs | hs
    · by_cases hz : xs.length = 0
      · refine key (.func (.func 146) #[] #[]) ?_ ?_
        · rw [hz]; exact srt_zero _
        · rw [hz]; exact isSw_zero _ _
      · have h1l : xs.length = 1 := by omega
        refine key (.func (.func 147) #[] #[]) ?_ ?_
        · rw [h1l]; rw [h1l] at h1; exact srt_one _ h1 hm (Nat.le_trans hll hg)
        · rw [h1l]; exact isSw_one _ _
    · exact key _ (srt_many _ h1 hm (Nat.le_trans hll hg) hn hs) (isSw_many _ _ hs)
end Go.Proofs.Yteeopgpgbdhmhaa
namespace Go.Proofs.Yteeopgpgbdhmhaa
open Go.ChangeShapes Go.WideShapes Go.ChangeAt Go.RowKit
set_option maxRecDepth 20000
set_option linter.constructorNameAsVariable false
theorem cells31 : Try.prog.cellsOf 31 = 1 := by kernel_rfl
theorem cells53 : Try.prog.cellsOf 53 = 23 := by kernel_rfl
variable {H : Type} {enc : TypeId × Value → H} {w : World} {base : Nat} {sp : Nat → Bool} {held : Bool} {fuel : Nat} {cs : List Value} {x : DataW H × List MemPlace}
theorem rd31 (h : DataW.trod enc Try.prog w base sp held fuel 31 cs = some x) : ∃ A n c b, cs = [.slice A n c] ∧ Bs w (.slice A n c) b := by
  rcases open_ints Try.underlying31 Try.underlying5 (by kernel_rfl) h with ⟨hcs, _⟩ | ⟨x, l, c, zs, hcs, _, hl, hm, hz, _, hcell, hwz⟩
  · exact ⟨none, 0, 0, [], hcs, rfl, none, 0, rfl, Nat.le_refl _, by omega, fun _ => rfl, by intro j u hu; simp [bl] at hu⟩
  · have hz' : l ≤ zs.length := by rw [hz]; split <;> omega
    refine ⟨some x, l, c, (zs.take l).map fun n => UInt8.ofNat n.toNat, hcs, by simp [bl_len], some x, c, ?_, ?_, ?_, ?_, ?_⟩
    · simp only [List.length_map, List.length_take]; rw [Nat.min_eq_left (by omega)]
    · simp only [List.length_map, List.length_take]; omega
    · have : maxLen = 9223372036854775807 := rfl
      omega
    · intro e; cases e
    · intro j u hu
      refine ⟨x, rfl, ?_⟩
      simp only [bl, List.getElem?_map, Option.map_eq_some_iff, List.getElem?_take] at hu
      obtain ⟨_, ⟨n, hn, rfl⟩, rfl⟩ := hu
      split at hn
      · have hj : j < zs.length := (List.getElem?_eq_some_iff.1 hn).1
        rw [hcell j hj]
        obtain ⟨b, hb⟩ := wf_u8 (hwz n (List.mem_of_getElem? hn))
        have e : zs.getD j 0 = n := by simp [List.getD, hn]
        rw [e]
        have hbn : n = (b.toNat : Int) := by simpa [u8] using hb
        rw [hbn]
        simp [u8]
      · cases hn
theorem choice_list {α : Type} {n : Nat} {R : Nat → α → Prop} (h : ∀ i, i < n → ∃ a, R i a) : ∃ l : List α, l.length = n ∧ ∀ i a, l[i]? = some a → R i a := by
  refine ⟨List.ofFn fun i : Fin n => Classical.choose (h i.1 i.2), by simp, ?_⟩
  intro i a ha
  rw [List.getElem?_ofFn] at ha
  split at ha
  · rename_i hi
    cases ha
    exact Classical.choose_spec (h i hi)
  · cases ha
end Go.Proofs.Yteeopgpgbdhmhaa
namespace Go.Proofs.Yteeopgpgbdhmhaa
open Go.ChangeShapes Go.WideShapes Go.ChangeAt Go.RowKit
set_option maxRecDepth 20000
set_option linter.constructorNameAsVariable false
variable {H : Type} {enc : TypeId × Value → H} {w : World} {base : Nat} {sp : Nat → Bool} {held : Bool}
variable {v : Value} {d : DataW H} {p : List MemPlace} {b0 : Nat} {r : Reach}
def SsIn (w : World) (v : Value) (ss : List Sg) : Prop := Ls cS w.heap.size w v ss ∧ ∀ s ∈ ss, s.vote.wf
end Go.Proofs.Yteeopgpgbdhmhaa
namespace Go.Proofs.Yteeopgpgbdhmhaa
open Go.RowKit Go.Lib
set_option linter.unusedVariables false
set_option linter.unusedSimpArgs false
/-- Slice va reads as ys wherever v reads as xs. -/
def CutOf {α : Type} (C : Cd α) (v : Value) (xs : List α) (va : Value) (ys : List α) : Prop := (∀ W, Rs W v xs.length C.sz (C.cs xs) → Rs W va ys.length C.sz (C.cs ys)) ∧ (∀ y ∈ ys, y ∈ xs) ∧ ys.length ≤ xs.length
section
variable {α : Type} {C : Cd α} {lo : Nat} {w : World} {v va : Value} {xs ys : List α}
theorem CutOf.refl (C : Cd α) (v : Value) (xs : List α) : CutOf C v xs v xs := ⟨fun _ h => h, fun _ h => h, Nat.le_refl _⟩
theorem Ls.via (h : Ls C lo w v xs) (c : CutOf C v xs va ys) : Ls C lo w va ys := ⟨c.1 w h.1, fun y hy => h.2 y (c.2.1 y hy)⟩
theorem CutOf.cut (c : CutOf C v xs va ys) {i j : Nat} (hij : i ≤ j) (hj : j ≤ ys.length) : CutOf C v xs (cutV va C.sz i j) ((ys.drop i).take (j - i)) := by
  refine ⟨fun W h => ?_, fun y hy => c.2.1 y (List.mem_of_mem_drop (List.mem_of_mem_take hy)), ?_⟩
  · have h1 : Ls ({C with ok := fun _ _ _ => True, okz := fun _ _ => trivial, fb := fun _ _ _ _ _ _ => trivial} : Cd α) 0 W va ys := ⟨c.1 W h, fun _ _ => trivial⟩
    exact (h1.cut hij hj).1
  · have := c.2.2
    rw [List.length_take, List.length_drop]; omega
end
theorem lel_ltz {α : Type} {C : Cd α} {xs : List α} {j s : Nat} {y : α} (hs : C.sz = s) (hk : 0 < s) (hy : xs[j]? = some y) : j * s < (C.cs xs).length := by subst hs; exact lel_lt (k := 0) hy hk
theorem gext {w w' : World} (g : w.grownBy w' (Value.slice none 0 0).ownBlock) : Ext w w' := ⟨g.1, g.2, g.3, g.4, fun k hk => g.5 k hk (fun e => nomatch (show (none : Option Nat) = some k from e.symm))⟩
theorem Ls.up2 {lo lo' : Nat} {w : World} {v : Value} {xs : List Sg} (h : Ls cS lo w v xs) (hl : lo ≤ lo') : Ls cS lo' w v xs := ⟨h.1, fun x hx => (h.2 x hx).up hl⟩
def sLt (a b : List UInt8) : Bool := Op.bytesLess (ByteArray.mk a.toArray).toList (ByteArray.mk b.toArray).toList
def sLe (a b : List UInt8) : Bool := sLt a b || (ByteArray.mk a.toArray).toList == (ByteArray.mk b.toArray).toList
section
variable {P : Program} {ρ : Operand → Value} {w : World} {dst : Option Tmp} {ty : TypeId} {pos : String} {aft : Array Edge} {gd : Option (Nat × Bool)}
theorem R_leqStr {x y : Operand} {a b : List UInt8} {t t' : TypeId} (hx : ρ x = strV a) (hy : ρ y = strV b) : (execOp ρ ⟨dst, .binOp .leq t x y t', ty, pos, aft, gd⟩).run Try.prog w = .ok (.value (.bool (sLe a b))) w := by
  simp only [execOp, hx, hy]
  rfl
theorem R_lssStr {x y : Operand} {a b : List UInt8} {t t' : TypeId} (hx : ρ x = strV a) (hy : ρ y = strV b) : (execOp ρ ⟨dst, .binOp .lss t x y t', ty, pos, aft, gd⟩).run Try.prog w = .ok (.value (.bool (sLt a b))) w := by
  simp only [execOp, hx, hy]
  rfl
end
section
variable {P : Program} {ops : Array Oper} {Q : Exit → Act → World → Prop} {K : Act → World → Prop} {n : Nat} {f : Nat → Value} {w : World} {d : Option Tmp} {ty : TypeId} {pos : String} {aft : Array Edge}
end
/-- A beginning of an own row is an own row. -/
theorem OwnB.take {w : World} {lo : Nat} {v : Value} {b : List UInt8} (h : OwnB w lo v b) {j : Nat} (hj : j ≤ b.length) : OwnB w lo (cutV v 1 0 j) (((b).drop 0).take (j - 0)) := by
  obtain ⟨hl, ⟨rfl, h0⟩ | ⟨g, cap, cur, rfl, hg, hb, h1, h2, h3, h4⟩⟩ := h
  · obtain rfl : b = [] := List.eq_nil_of_length_eq_zero h0
    obtain rfl : j = 0 := by simpa using hj
    exact OwnB.nil w lo
  · refine ⟨by simp [bl_len], .inr ⟨g, cap, cur, ?_, hg, hb, ?_, h2, h3, ?_⟩⟩
    · simp only [cutV, List.drop_zero, List.length_take, Nat.sub_zero, Nat.zero_mul]
      rw [Nat.min_eq_left hj]
      by_cases hc : cap = 0
      · rw [if_pos hc]
      · rw [if_neg hc]; rfl
    · simp only [List.drop_zero, List.length_take, Nat.sub_zero]; omega
    · simp only [List.drop_zero, Nat.sub_zero, List.length_take, Nat.mul_one, Nat.min_eq_left hj] at h4 ⊢
      have e : cur.toList.take j = (cur.toList.take b.length).take j := by rw [List.take_take, Nat.min_eq_left hj]
      rw [e, h4]; simp [bl, List.map_take]
end Go.Proofs.Yteeopgpgbdhmhaa
namespace Go.Proofs.Yteeopgpgbdhmhaa
open Go.RowKit Go.Lib
set_option linter.unusedVariables false
set_option linter.unusedSimpArgs false
section
variable {P : Program} {ρ : Operand → Value} {w : World} {dst : Option Tmp} {ty : TypeId} {pos : String} {aft : Array Edge} {gd : Option (Nat × Bool)}
theorem R_mkI {x : Operand} {v : Value} {t e : TypeId} (ht : P.underlying t = some (.slice e)) (hx : ρ x = v) : (execOp ρ ⟨dst, .makeInterface t x, ty, pos, aft, gd⟩).run P w = .ok (.value (.iface t v)) w := by
  simp [execOp, hx, Instr.makeInterface, run_underlying ht]
theorem R_mkF1 {x : Operand} {v : Value} {F : Fn} (hx : ρ x = v) : (execOp ρ ⟨dst, .makeFunc F #[] #[x], ty, pos, aft, gd⟩).run P w = .ok (.value (.func F #[] #[v])) w := by
  simp [execOp, hx, Instr.makeFunc]
end
theorem rs_pl {w : World} {v : Value} {m sz : Nat} {cs : List Value} (h : Rs w v m sz cs) : plainV v = true := by
  obtain ⟨_, A, c, rfl, _⟩ := h; rfl
theorem fillp {xs ys : List Sg} {i : Nat} {y : Sg} (h : (ys.take i).map Sg.p = (xs.take i).map Sg.p) (hl : ys.length = xs.length) (lk : i < xs.length) (hy : y.p = (xs.getD i Sg.zero).p) : ((ys.set i y).take (i + 1)).map Sg.p = (xs.take (i + 1)).map Sg.p := by
  have hi : i < ys.length := by omega
  have e1 : (ys.set i y).take (i + 1) = ys.take i ++ [y] := by
    apply List.ext_getElem?
    intro k
    rw [List.getElem?_take, List.getElem?_set]
    rcases Nat.lt_trichotomy k i with hk | hk | hk
    · rw [if_pos (by omega), if_neg (by omega), List.getElem?_append_left (by rw [List.length_take]; omega), List.getElem?_take, if_pos hk]
    · subst hk; rw [if_pos (by omega), if_pos rfl, if_pos hi, List.getElem?_append_right (by rw [List.length_take]; omega), List.length_take, Nat.min_eq_left (by omega), Nat.sub_self]; rfl
    · rw [if_neg (by omega), List.getElem?_eq_none (by rw [List.length_append, List.length_take, List.length_singleton]; omega)]
  rw [e1, List.map_append, h, List.take_add_one, List.map_append, List.getElem?_eq_getElem lk]
  have e2 : xs.getD i Sg.zero = xs[i] := by simp [List.getD, lk]
  rw [e2] at hy
  simp [hy]
/-- what is kept of a sorted list: the first of each vote -/
def ddn (zs : List Sg) : Nat → List Sg
  | 0 => []
  | k + 1 => if k = 0 ∨ (zs.getD k Sg.zero).vote ≠ (zs.getD (k - 1) Sg.zero).vote then ddn zs k ++ [zs.getD k Sg.zero] else ddn zs k
theorem ddn_len (zs : List Sg) : ∀ k, (ddn zs k).length ≤ k
  | 0 => Nat.le_refl _
  | k + 1 => by
    have := ddn_len zs k
    rw [ddn]; split
    · rw [List.length_append, List.length_singleton]; omega
    · omega
theorem ddn_y {zs ys : List Sg} {k : Nat} (h : ys = ddn zs k) (hc : k = 0 ∨ (zs.getD k Sg.zero).vote ≠ (zs.getD (k - 1) Sg.zero).vote) : ys ++ [zs.getD k Sg.zero] = ddn zs (k + 1) := by rw [ddn, if_pos hc, h]
theorem ddn_n {zs ys : List Sg} {k : Nat} (h : ys = ddn zs k) (hc : ¬ (k = 0 ∨ (zs.getD k Sg.zero).vote ≠ (zs.getD (k - 1) Sg.zero).vote)) : ys = ddn zs (k + 1) := by rw [ddn, if_neg hc, h]
end Go.Proofs.Yteeopgpgbdhmhaa
namespace Go.Proofs.Yteeopgpgbdhmhaa
open Go.RowKit
set_option linter.unusedVariables false
set_option linter.unusedSimpArgs false
attribute [local irreducible] wpList wpO H wpQuiet wpStill Code.wp Exit.then Exit.inBlock bodyPost Code.rounds Calls valid lessV hless num between
set_option maxRecDepth 4000 in
set_option maxHeartbeats 2000000 in
theorem c57 (lo : Nat) (v : Value) (xs : List Sg) (w : World) (hlo : lo ≤ w.heap.size) (hn : xs.length ≤ 1000000) (h : Ls cS lo w v xs) (hsl : ∀ x ∈ xs, x.sig.length ≤ 140737488355328) : Calls Try.prog 57 [v].toArray w (RetE w fun r w' => ∃ ys, Ow cS lo w.heap.size w' r ys ∧ ∃ zs : List Sg, zs.length = xs.length ∧ (∀ p, p ∈ zs.map Sg.p ↔ p ∈ xs.map Sg.p) ∧ srtL zs ∧ ys = ddn zs zs.length) := by
  refine enter Try.func57 Try.ntmps57 rfl rfl ?_
  have hE := Ext.refl w
  refine wp_seq ?_
  refine W_region ?_
  refine L (D_v (R_assign rfl) ?_)
  refine S_nil ?_
  refine T_tn ?_
  refine wp_seq ?_
  refine W_region ?_
  refine L (D_v (R_move rfl) ?_)
  refine L (D_v (R_len Try.underlying46 rfl (h.ext hE).1) ?_)
  refine L (D_makeL (C := cS) (lo := lo) (l := (xs).length) (c := (xs).length) mk53 Try.underlying46 rfl rfl (by (try simp only [List.length_take, List.length_drop, List.length_append, List.length_cons, List.length_nil, List.length_replicate, List.length_set, Nm.b_len, be2_len]); omega) (by (try simp only [List.length_take, List.length_drop, List.length_append, List.length_cons, List.length_nil, List.length_replicate, List.length_set, Nm.b_len, be2_len]); omega) (by (try simp only [List.length_take, List.length_drop, List.length_append, List.length_cons, List.length_nil, List.length_replicate, List.length_set, Nm.b_len, be2_len]); omega) (fun v2_2 w2_2 o2_2 e2_2 => ?_))
  replace o2_2 := o2_2.low hE.size
  replace hE := hE.trans e2_2
  refine L (D_alloc (c := [(Value.slice none 0 0)]) Try.zeroValue46 rfl (fun aB2_3 w2_3 e2_3 gB2_3 hB2_3 => ?_))
  have lB2_3 := Nat.le_trans hE.size gB2_3
  replace hE := hE.trans e2_3
  replace o2_2 := o2_2.ext e2_3
  have xo2_2 := own_neB o2_2.1 hB2_3 rfl
  have h0 := hB2_3
  refine L (D_store1 Try.sizeOf46 hB2_3 rfl rfl (rs_pl o2_2.ls.1) rfl (fun w2_4 k2_4 (hB2_3 : Blk w2_4 aB2_3 [v2_2] 46) => ?_))
  have f2_4 := Fb.kp k2_4 (Nat.le_trans hlo lB2_3) (Blk.notB h0 rfl)
  replace hE := hE.kp k2_4 lB2_3
  replace o2_2 := o2_2.kp k2_4 xo2_2 f2_4
  refine S_nil ?_
  refine T_tn ?_
  refine wp_seq ?_
  refine wp_seq ?_
  refine W_region ?_
  refine L (D_v (R_move rfl) ?_)
  refine L (D_v (R_len Try.underlying46 rfl (h.ext hE).1) ?_)
  refine L (D_v (R_move rfl) ?_)
  refine S_nil ?_
  refine T_tn ?_
  refine wp_block ?_
  refine W_loop (fun mz g W => ∃ (i : Nat) (ys : List Sg), mz = xs.length - i ∧ g 3 = .pointer (some ⟨aB2_3, 0, none⟩) ∧ g 12 = v ∧ g 13 = i64 (((xs).length : Nat) : Int) ∧ g 14 = i64 ((i : Nat) : Int) ∧ Ext w W ∧ Blk W aB2_3 [v2_2] 46 ∧ Ow cS lo w.heap.size W v2_2 ys ∧ i ≤ xs.length ∧ ys.length = xs.length ∧ (ys.take i).map Sg.p = (xs.take i).map Sg.p) ⟨0, _, rfl, rfl, rfl, rfl, rfl, hE, hB2_3, o2_2, (Nat.zero_le _), (by simp), (by simp)⟩ ?_
  rintro mz f4 w4l ⟨i, ys, hm, q3, q12, q13, q14, hE, hB2_3, ov2_2, hi, hyl, hyp⟩
  refine wp_seq ?_
  refine W_region ?_
  refine L (D_v (R_lssI q14 q13) ?_)
  refine S_nil ?_
  refine T_tn ?_
  refine wp_seq ?_
  refine W_if rfl (fun c1 => ?_) (fun c1 => ?_)
  ·
    have lk : i < xs.length := by simp at c1; omega
    have hsi := hsl _ (List.getElem_mem (by exact lk))
    have hgd : xs.getD i Sg.zero = xs[i] := by simp [List.getD, lk]
    rw [← hgd] at hsi
    refine wp_skip ?_
    refine T_tn ?_
    refine wp_seq ?_
    refine wp_block ?_
    refine wp_seq ?_
    refine W_region ?_
    refine L (D_v (R_move q14) ?_)
    refine L (D_v (R_elAddr (i := i) Try.underlying46 Try.sizeOf53 q12 q14 (h.ext hE).1 (by (try simp only [List.length_take, List.length_drop, List.length_append, List.length_cons, List.length_nil, List.length_replicate, List.length_set, Nm.b_len, be2_len]); omega)) ?_)
    have k6_2 := ((h.ext hE)).get (getD_some (d := Sg.zero) (by (try simp only [List.length_take, List.length_drop, List.length_append, List.length_cons, List.length_nil, List.length_replicate, List.length_set, Nm.b_len, be2_len]); omega))
    refine L (D_v (R_ldL (C := cS) (i := i) (y := ((xs).getD (i) Sg.zero)) Try.isAgg53 Try.sizeOf53 rfl (h.ext hE) (getD_some (d := Sg.zero) (by (try simp only [List.length_take, List.length_drop, List.length_append, List.length_cons, List.length_nil, List.length_replicate, List.length_set, Nm.b_len, be2_len]); omega))) ?_)
    refine L (D_alloc (c := (Sg.zero).l) Try.zeroValue53 rfl (fun aB6_3 w6_3 e6_3 gB6_3 hB6_3 => ?_))
    have lB6_3 := Nat.le_trans hE.size gB6_3
    have nB2_3B6_3 := hB2_3.ne gB6_3
    have yv2_2_B6_3 : Value.ownBlock v2_2 ≠ some aB6_3 := fun hk => absurd (own_lt ov2_2.1 hk) (Nat.not_lt.2 gB6_3)
    replace hE := hE.trans e6_3
    replace hB2_3 := hB2_3.ext e6_3
    replace ov2_2 := ov2_2.ext e6_3
    replace k6_2 := k6_2.fb (Fb.ext e6_3)
    refine L (D_v (R_assign rfl) ?_)
    have xov2_2 := yv2_2_B6_3
    have h0 := hB6_3
    refine L (D_storeA Try.sizeOf53 hB6_3 rfl rfl rfl rfl rfl (l' := (((xs).getD (i) Sg.zero)).l) rfl (fun w6_5 k6_5 hB6_3 => ?_))
    have f6_5 := Fb.kp k6_5 (Nat.le_trans hlo lB6_3) (Blk.notB h0 rfl)
    replace hE := hE.kp k6_5 lB6_3
    replace hB2_3 := hB2_3.kp k6_5 nB2_3B6_3
    replace ov2_2 := ov2_2.kp k6_5 xov2_2 f6_5
    replace k6_2 := k6_2.fb f6_5
    refine S_nil ?_
    refine T_tn ?_
    refine W_held (fun W => Ext w W ∧ Blk W aB2_3 [v2_2] 46 ∧ Blk W aB6_3 (((xs).getD (i) Sg.zero)).l 53 ∧ Sg.okf lo W (((xs).getD (i) Sg.zero)) ∧ True) mixed (fun w7_99 e7_99 => ?_)
    replace hE := hE.trans e7_99
    replace hB2_3 := hB2_3.ext e7_99
    replace hB6_3 := hB6_3.ext e7_99
    replace ov2_2 := ov2_2.ext e7_99
    replace k6_2 := k6_2.fb (Fb.ext e7_99)
    refine H_take (i := 0) rfl (by kernel_rfl) (by kernel_rfl) (by kernel_rfl) rfl (pq_block (pq_then (pq_then (pq_block (pq_then pq_body))))) ⟨hE, hB2_3, hB6_3, k6_2, trivial⟩ rfl (fun w hw => R_load Try.isAgg46 hw.2.1 q3 rfl) ?_
    refine H_take (i := 1) rfl (by kernel_rfl) (by kernel_rfl) (by kernel_rfl) rfl (pq_block (pq_then (pq_then (pq_block (pq_then pq_body))))) ⟨hE, hB2_3, hB6_3, k6_2, trivial⟩ rfl (fun w hw => R_move rfl) ?_
    refine H_take (i := 2) rfl (by kernel_rfl) (by kernel_rfl) (by kernel_rfl) rfl (pq_block (pq_then (pq_then (pq_block (pq_then pq_body))))) ⟨hE, hB2_3, hB6_3, k6_2, trivial⟩ rfl (fun w hw => R_fieldAddr Try.runUnderlying53 rfl Try.sizeOf26 rfl) ?_
    refine H_take (i := 3) rfl (by kernel_rfl) (by kernel_rfl) (by kernel_rfl) rfl (pq_block (pq_then (pq_then (pq_block (pq_then pq_body))))) ⟨hE, hB2_3, hB6_3, k6_2, trivial⟩ rfl (fun w hw => R_loadA (c := ((((xs).getD (i) Sg.zero)).vote).l) Try.isAgg26 Try.sizeOf26 hw.2.2.1 rfl rfl rfl) ?_
    refine H_take (i := 4) rfl (by kernel_rfl) (by kernel_rfl) (by kernel_rfl) rfl (pq_block (pq_then (pq_then (pq_block (pq_then pq_body))))) ⟨hE, hB2_3, hB6_3, k6_2, trivial⟩ rfl (fun w hw => R_fieldAddr Try.runUnderlying53 rfl Try.sizeOf31 rfl) ?_
    refine H_take (i := 5) rfl (by kernel_rfl) (by kernel_rfl) (by kernel_rfl) rfl (pq_block (pq_then (pq_then (pq_block (pq_then pq_body))))) ⟨hE, hB2_3, hB6_3, k6_2, trivial⟩ rfl (fun w hw => R_load Try.isAgg31 hw.2.2.1 rfl rfl) ?_
    refine H_op (i := 6) (by kernel_rfl) rfl rfl (D_callE (R_callF Try.call86 rfl rfl) (c86_0 (.slice (((xs).getD (i) Sg.zero)).A (((xs).getD (i) Sg.zero)).n (((xs).getD (i) Sg.zero)).c) ((((xs).getD (i) Sg.zero)).sig) _ _ k6_2.bs (by simp only [List.length_nil, Nat.add_zero, Nat.zero_add]; omega)) (fun v7_6 w7_6 e7_6 p7_6 => ?_))
    have o7_6 := p7_6
    replace o7_6 := o7_6.lo hE.size
    replace hE := hE.trans e7_6
    replace hB2_3 := hB2_3.ext e7_6
    replace hB6_3 := hB6_3.ext e7_6
    replace ov2_2 := ov2_2.ext e7_6
    replace k6_2 := k6_2.fb (Fb.ext e7_6)
    refine ⟨⟨hE, hB2_3, hB6_3, k6_2, trivial⟩, ?_⟩
    have k7_7 : Sg.okf lo w7_6 (mkSg ((((xs).getD (i) Sg.zero)).vote) v7_6 (((xs).getD (i) Sg.zero)).sig) := mkSg_ok _ (Bf.own o7_6)
    refine H_op (i := 7) (by kernel_rfl) rfl rfl (D_v (R_buildS (vs := [(0, .agg ((((xs).getD (i) Sg.zero)).vote).l.toArray), (1, v7_6)]) (c := (mkSg ((((xs).getD (i) Sg.zero)).vote) v7_6 (((xs).getD (i) Sg.zero)).sig).l) Try.runUnderlying53 places53 Try.zeroValue53 (mapp2 rfl rfl) (fill53 _ o7_6.bs)) ⟨⟨hE, hB2_3, hB6_3, k6_2, trivial⟩, ?_⟩)
    refine H_op (i := 8) (by kernel_rfl) rfl rfl (D_v (R_elAddr (i := i) Try.underlying46 Try.sizeOf53 rfl rfl ov2_2.ls.1 (by (try simp only [List.length_take, List.length_drop, List.length_append, List.length_cons, List.length_nil, List.length_replicate, List.length_set, Nm.b_len, be2_len]); omega)) ⟨⟨hE, hB2_3, hB6_3, k6_2, trivial⟩, ?_⟩)
    refine H_op (i := 9) (by kernel_rfl) rfl rfl (D_stL (C := cS) (i := i) (c := (mkSg ((((xs).getD (i) Sg.zero)).vote) v7_6 (((xs).getD (i) Sg.zero)).sig)) (by decide) Try.sizeOf53 rfl rfl ov2_2 hlo (by (try simp only [List.length_take, List.length_drop, List.length_append, List.length_cons, List.length_nil, List.length_replicate, List.length_set, Nm.b_len, be2_len]); omega) k7_7 (fun w7_9 o7_9 g7_9 f7_9 => ?_))
    replace hE := hE.grown g7_9 (fun k hk => own_ge ov2_2.1 hk)
    replace hB2_3 := hB2_3.grown g7_9 (own_neB ov2_2.1 hB2_3 rfl)
    replace hB6_3 := hB6_3.grown g7_9 (yv2_2_B6_3)
    replace o7_6 := o7_6.grown g7_9 (own_ne o7_6 ov2_2.1 rfl)
    replace k6_2 := k6_2.fb f7_9
    replace k7_7 := k7_7.fb f7_9
    refine ⟨⟨hE, hB2_3, hB6_3, k6_2, trivial⟩, ?_⟩
    refine H_done (by kernel_rfl) ?_
    refine T_bn ?_
    refine T_tn ?_
    refine W_region ?_
    refine L (D_v (R_addN (m := i) (j := 1) q14 rfl (by (try simp only [List.length_take, List.length_drop, List.length_append, List.length_cons, List.length_nil, List.length_replicate, List.length_set, Nm.b_len, be2_len]); omega)) ?_)
    refine L (D_v (R_move rfl) ?_)
    refine S_nil ?_
    refine T_tn ?_
    refine ⟨_, _, ?_, rfl, i + 1, _, rfl, q3, q12, q13, rfl, hE, hB2_3, o7_9, ?_, ?_, ?_⟩
    all_goals first | omega | (simp only [List.length_set]; exact hyl) | exact fillp hyp hyl lk rfl
  ·
    obtain rfl : i = xs.length := by have h9 := of_decide_eq_false c1; omega
    refine wp_exit ?_
    refine T_te ?_
    refine T_te ?_
    refine T_be ?_
    refine T_tn ?_
    refine wp_seq ?_
    refine W_region ?_
    refine L (D_v (R_load Try.isAgg46 hB2_3 q3 rfl) ?_)
    refine L (D_v (R_mkI Try.underlying46 rfl) ?_)
    refine L (D_v (R_mkF1 q3) ?_)
    refine L (D_callS (R_callF Try.call95 rfl rfl) (sort46 ov2_2 hlo hB2_3 (by omega)) (fun w6_3 p6_3 => ?_))
    obtain ⟨g6_3, f6_3, zs6_3, o6_3, hzl, hzm, hzs⟩ := p6_3
    replace hE := hE.grown g6_3 (fun k hk => own_ge ov2_2.1 hk)
    replace hB2_3 := hB2_3.grown g6_3 (own_neB ov2_2.1 hB2_3 rfl)
    refine S_nil ?_
    refine T_tn ?_
    refine wp_seq ?_
    refine W_region ?_
    refine L (D_v (R_assign rfl) ?_)
    refine S_nil ?_
    refine T_tn ?_
    refine wp_seq ?_
    refine wp_seq ?_
    refine W_region ?_
    refine L (D_v (R_load Try.isAgg46 hB2_3 q3 rfl) ?_)
    refine L (D_v (R_len Try.underlying46 rfl o6_3.ls.1) ?_)
    refine L (D_v (R_move rfl) ?_)
    refine S_nil ?_
    refine T_tn ?_
    refine wp_block ?_
    refine W_loop (fun mz g W => ∃ (k : Nat) (us : List Sg) (r6 : Value), mz = zs6_3.length - k ∧ g 3 = .pointer (some ⟨aB2_3, 0, none⟩) ∧ g 6 = r6 ∧ g 33 = v2_2 ∧ g 34 = i64 (((zs6_3).length : Nat) : Int) ∧ g 35 = i64 ((k : Nat) : Int) ∧ Ext w W ∧ Blk W aB2_3 [v2_2] 46 ∧ Ow cS lo w.heap.size W v2_2 zs6_3 ∧ Ow cS lo w.heap.size W r6 us ∧ (∀ k, Value.ownBlock v2_2 = some k → Value.ownBlock r6 ≠ some k) ∧ k ≤ zs6_3.length ∧ us = ddn zs6_3 k) ⟨0, [], _, rfl, q3, rfl, rfl, rfl, rfl, hE, hB2_3, o6_3, (Ow.nil cS lo _ _), (fun k _ h => nomatch (show (none : Option Nat) = some _ from h)), (Nat.zero_le _), rfl⟩ ?_
    rintro mz f9 w9l ⟨k, us, r6, hm, q3, q6, q33, q34, q35, hE, hB2_3, ov2_2, or6, zv2_2_r6, hk, hu⟩
    have hul := ddn_len zs6_3 k
    rw [← hu] at hul
    refine wp_seq ?_
    refine W_region ?_
    refine L (D_v (R_lssI q35 q34) ?_)
    refine S_nil ?_
    refine T_tn ?_
    refine wp_seq ?_
    refine W_if rfl (fun c2 => ?_) (fun c2 => ?_)
    ·
      have lk : k < zs6_3.length := by simp at c2; omega
      refine wp_skip ?_
      refine T_tn ?_
      refine wp_seq ?_
      refine wp_block ?_
      refine wp_seq ?_
      refine W_region ?_
      refine L (D_v (R_move q35) ?_)
      refine L (D_v (R_elAddr (i := k) Try.underlying46 Try.sizeOf53 q33 q35 ov2_2.ls.1 (by (try simp only [List.length_take, List.length_drop, List.length_append, List.length_cons, List.length_nil, List.length_replicate, List.length_set, Nm.b_len, be2_len]); omega)) ?_)
      have k11_2 := (ov2_2.ls).get (getD_some (d := Sg.zero) (by (try simp only [List.length_take, List.length_drop, List.length_append, List.length_cons, List.length_nil, List.length_replicate, List.length_set, Nm.b_len, be2_len]); omega))
      refine L (D_v (R_ldL (C := cS) (i := k) (y := ((zs6_3).getD (k) Sg.zero)) Try.isAgg53 Try.sizeOf53 rfl ov2_2.ls (getD_some (d := Sg.zero) (by (try simp only [List.length_take, List.length_drop, List.length_append, List.length_cons, List.length_nil, List.length_replicate, List.length_set, Nm.b_len, be2_len]); omega))) ?_)
      refine L (D_alloc (c := (Sg.zero).l) Try.zeroValue53 rfl (fun aB11_3 w11_3 e11_3 gB11_3 hB11_3 => ?_))
      have lB11_3 := Nat.le_trans hE.size gB11_3
      have nB2_3B11_3 := hB2_3.ne gB11_3
      have yv2_2_B11_3 : Value.ownBlock v2_2 ≠ some aB11_3 := fun hk => absurd (own_lt ov2_2.1 hk) (Nat.not_lt.2 gB11_3)
      have yr6_B11_3 : Value.ownBlock r6 ≠ some aB11_3 := fun hk => absurd (own_lt or6.1 hk) (Nat.not_lt.2 gB11_3)
      replace hE := hE.trans e11_3
      replace hB2_3 := hB2_3.ext e11_3
      replace ov2_2 := ov2_2.ext e11_3
      replace or6 := or6.ext e11_3
      replace k11_2 := k11_2.fb (Fb.ext e11_3)
      refine L (D_v (R_assign rfl) ?_)
      have xov2_2 := yv2_2_B11_3
      have xor6 := yr6_B11_3
      have h0 := hB11_3
      refine L (D_storeA Try.sizeOf53 hB11_3 rfl rfl rfl rfl rfl (l' := (((zs6_3).getD (k) Sg.zero)).l) rfl (fun w11_5 k11_5 hB11_3 => ?_))
      have f11_5 := Fb.kp k11_5 (Nat.le_trans hlo lB11_3) (Blk.notB h0 rfl)
      replace hE := hE.kp k11_5 lB11_3
      replace hB2_3 := hB2_3.kp k11_5 nB2_3B11_3
      replace ov2_2 := ov2_2.kp k11_5 xov2_2 f11_5
      replace or6 := or6.kp k11_5 xor6 f11_5
      replace k11_2 := k11_2.fb f11_5
      refine S_nil ?_
      refine T_tn ?_
      refine wp_seq ?_
      refine W_draw mixed (by kernel_rfl) ?_
      refine Q_v (fun w hw => R_move rfl) ?_
      refine Q_v (fun w hw => R_eqlI rfl rfl) ?_
      refine Q_v (fun w hw => R_move rfl) ?_
      refine Q_g1 rfl rfl (fun hb w hw => R_fieldAddr Try.runUnderlying53 rfl Try.sizeOf26 rfl) ?_
      refine Q_g1 rfl rfl (fun hb w hw => R_loadA (c := ((((zs6_3).getD (k) Sg.zero)).vote).l) Try.isAgg26 Try.sizeOf26 (hB11_3.ext hw) (cgE hb) rfl rfl) ?_
      refine Q_g1 rfl rfl (fun hb w hw => R_load Try.isAgg46 (hB2_3.ext hw) q3 rfl) ?_
      refine Q_g1 rfl rfl (fun hb w hw => R_move rfl) ?_
      refine Q_g1 rfl rfl (fun hb w hw => R_subN (m := k) (j := 1) (cgE hb) rfl (by first | ((try simp only [List.length_take, List.length_drop, List.length_append, List.length_cons, List.length_nil]); omega) | (simp at hb; omega)) (by first | ((try simp only [List.length_take, List.length_drop, List.length_append, List.length_cons, List.length_nil]); omega) | (simp at hb; omega))) ?_
      refine Q_g1 rfl rfl (fun hb w hw => R_elAddr (i := (k - 1)) Try.underlying46 Try.sizeOf53 (cgE hb) (cgE hb) (ov2_2.ls.ext hw).1 (by first | ((try simp only [List.length_take, List.length_drop, List.length_append, List.length_cons, List.length_nil]); omega) | (simp at hb; omega))) ?_
      refine Q_g1 rfl rfl (fun hb w hw => R_fieldEl (k := (k - 1) * 23) Try.runUnderlying53 rfl Try.sizeOf26 (ov2_2.ls.ext hw).1 (lel_ltz (C := cS) (s := 23) rfl (by decide) (getD_some (d := Sg.zero) (by first | ((try simp only [List.length_take, List.length_drop, List.length_append, List.length_cons, List.length_nil]); omega) | (simp at hb; omega)))) (cgE hb)) ?_
      refine Q_g1 rfl rfl (fun hb w hw => R_ldP (C := cS) (i := (k - 1)) (k := 0) (y := ((zs6_3).getD ((k - 1)) Sg.zero)) (c := ((((zs6_3).getD ((k - 1)) Sg.zero)).vote).l) Try.isAgg26 Try.sizeOf26 (cgE hb) (ov2_2.ls.ext hw) (getD_some (d := Sg.zero) (by first | ((try simp only [List.length_take, List.length_drop, List.length_append, List.length_cons, List.length_nil]); omega) | (simp at hb; omega))) (by decide) (by decide) rfl) ?_
      refine Q_g1 rfl rfl (fun hb w hw => R_neqA Try.eqGuardType26 (eq26 ((((zs6_3).getD (k) Sg.zero)).vote) ((((zs6_3).getD ((k - 1)) Sg.zero)).vote) _) (cgE hb) (cgE hb)) ?_
      refine Q_v (fun w hw => R_pickO rfl rfl rfl) ?_
      refine Q_nil (fun w12_99 e12_99 => ?_)
      replace hE := hE.trans e12_99
      replace hB2_3 := hB2_3.ext e12_99
      replace hB11_3 := hB11_3.ext e12_99
      replace ov2_2 := ov2_2.ext e12_99
      replace or6 := or6.ext e12_99
      replace k11_2 := k11_2.fb (Fb.ext e12_99)
      refine T_tn ?_
      refine W_if rfl (fun c3 => ?_) (fun c3 => ?_)
      ·
        have hc9 := c3
        refine W_region ?_
        refine L (D_v (R_move q6) ?_)
        refine L (D_v (R_loadA (c := (((zs6_3).getD (k) Sg.zero)).l) Try.isAgg53 Try.sizeOf53 hB11_3 rfl rfl rfl) ?_)
        refine L (D_buildL1 (C := cS) (lo := lo) (y := ((zs6_3).getD (k) Sg.zero)) Try.underlying46 Try.sizeOf53 Try.zeroValue53 (mapp1 rfl) (by decide) k11_2 (fun v13_2 w13_2 o13_2 e13_2 => ?_))
        have yv13_2_B11_3 : Value.ownBlock v13_2 ≠ some aB11_3 := fun hk => absurd (own_ge o13_2.1 hk) (Nat.not_le.2 hB11_3.lt)
        have zv2_2_v13_2 := own_apart ov2_2.1 o13_2.1
        have zv13_2_v2_2 := fun k hk hk2 => zv2_2_v13_2 k hk2 hk
        have zr6_v13_2 := own_apart or6.1 o13_2.1
        have zv13_2_r6 := fun k hk hk2 => zr6_v13_2 k hk2 hk
        replace o13_2 := o13_2.low hE.size
        replace hE := hE.trans e13_2
        replace hB2_3 := hB2_3.ext e13_2
        replace hB11_3 := hB11_3.ext e13_2
        replace ov2_2 := ov2_2.ext e13_2
        replace or6 := or6.ext e13_2
        replace k11_2 := k11_2.fb (Fb.ext e13_2)
        refine L (D_appendL elt53 Try.underlying46 rfl rfl or6 hlo o13_2.ls (by (try simp only [List.length_take, List.length_drop, List.length_append, List.length_cons, List.length_nil, List.length_replicate, List.length_set, Nm.b_len, be2_len]); omega) (by (try simp only [List.length_take, List.length_drop, List.length_append, List.length_cons, List.length_nil, List.length_replicate, List.length_set, Nm.b_len, be2_len]); omega) hE.size (fun v13_3 w13_3 o13_3 g13_3 f13_3 sv13_3 => ?_))
        have yv13_3_B11_3 : Value.ownBlock v13_3 ≠ some aB11_3 := fun hk => (sv13_3 _ hk).elim yr6_B11_3 (fun h => absurd h (Nat.not_le.2 hB11_3.lt))
        have zv2_2_v13_3 : ∀ k, Value.ownBlock v2_2 = some k → Value.ownBlock v13_3 ≠ some k := fun k hk2 hk => (sv13_3 _ hk).elim (fun h => zv2_2_r6 k hk2 h) (fun h => absurd h (Nat.not_le.2 (own_lt ov2_2.1 hk2)))
        have zv13_3_v2_2 := fun k hk hk2 => zv2_2_v13_3 k hk2 hk
        have zv13_2_v13_3 : ∀ k, Value.ownBlock v13_2 = some k → Value.ownBlock v13_3 ≠ some k := fun k hk2 hk => (sv13_3 _ hk).elim (fun h => zv13_2_r6 k hk2 h) (fun h => absurd h (Nat.not_le.2 (own_lt o13_2.1 hk2)))
        have zv13_3_v13_2 := fun k hk hk2 => zv13_2_v13_3 k hk2 hk
        replace hE := hE.grown g13_3 (fun k hk => own_ge or6.1 hk)
        replace hB2_3 := hB2_3.grown g13_3 (own_neB or6.1 hB2_3 rfl)
        replace hB11_3 := hB11_3.grown g13_3 (yr6_B11_3)
        replace ov2_2 := ov2_2.grown g13_3 (zv2_2_r6) f13_3
        replace o13_2 := o13_2.grown g13_3 (zv13_2_r6) f13_3
        replace k11_2 := k11_2.fb f13_3
        refine L (D_v (R_assign rfl) ?_)
        refine S_nil ?_
        refine T_bn ?_
        refine T_tn ?_
        refine W_region ?_
        refine L (D_v (R_addN (m := k) (j := 1) q35 rfl (by (try simp only [List.length_take, List.length_drop, List.length_append, List.length_cons, List.length_nil, List.length_replicate, List.length_set, Nm.b_len, be2_len]); omega)) ?_)
        refine L (D_v (R_move rfl) ?_)
        refine S_nil ?_
        refine T_tn ?_
        refine ⟨_, _, ?_, rfl, k + 1, _, _, rfl, q3, rfl, q33, q34, rfl, hE, hB2_3, ov2_2, o13_3, zv2_2_v13_3, ?_, ?_⟩
        all_goals first | omega | exact ddn_y hu (by (try simp at hc9); first | exact hc9 | omega) | exact ddn_n hu (by (try simp at hc9); first | exact hc9 | (simp; exact hc9))
      ·
        have hc9 := c3
        refine wp_skip ?_
        refine T_bn ?_
        refine T_tn ?_
        refine W_region ?_
        refine L (D_v (R_addN (m := k) (j := 1) q35 rfl (by (try simp only [List.length_take, List.length_drop, List.length_append, List.length_cons, List.length_nil, List.length_replicate, List.length_set, Nm.b_len, be2_len]); omega)) ?_)
        refine L (D_v (R_move rfl) ?_)
        refine S_nil ?_
        refine T_tn ?_
        refine ⟨_, _, ?_, rfl, k + 1, _, _, rfl, q3, q6, q33, q34, rfl, hE, hB2_3, ov2_2, or6, zv2_2_r6, ?_, ?_⟩
        all_goals first | omega | exact ddn_y hu (by (try simp at hc9); first | exact hc9 | omega) | exact ddn_n hu (by (try simp at hc9); first | exact hc9 | (simp; exact hc9))
    ·
      obtain rfl : k = zs6_3.length := by have h9 := of_decide_eq_false c2; omega
      refine wp_exit ?_
      refine T_te ?_
      refine T_te ?_
      refine T_be ?_
      refine T_tn ?_
      refine wp_seq ?_
      refine W_region ?_
      refine L (D_v (R_move q6) ?_)
      refine L (D_v (R_assign rfl) ?_)
      refine S_nil ?_
      refine T_tn ?_
      refine wp_ret ?_
      refine ret1 (v := r6) rfl rfl ⟨_, rfl, hE, ?_⟩
      exact ⟨_, or6, zs6_3, by omega, fun p => by rw [hzm, show ys.map Sg.p = xs.map Sg.p from by rw [List.take_of_length_le (by omega), List.take_of_length_le (by omega)] at hyp; exact hyp], hzs, hu⟩
end Go.Proofs.Yteeopgpgbdhmhaa
namespace Go.Proofs.Yteeopgpgbdhmhaa
open Go.RowKit Go.Lib
set_option linter.unusedVariables false
def sameS (a b : Pv) : Bool := decide (a.1 = b.1) && decide (a.2 = b.2)
end Go.Proofs.Yteeopgpgbdhmhaa
namespace Go.Proofs.Yteeopgpgbdhmhaa
open Go.RowKit
set_option linter.unusedVariables false
set_option linter.unusedSimpArgs false
attribute [local irreducible] wpList wpO H wpQuiet wpStill Code.wp Exit.then Exit.inBlock bodyPost Code.rounds Calls valid lessV hless num between
set_option maxRecDepth 4000 in
set_option maxHeartbeats 1000000 in
theorem c55 (x y : Sg) (w : World) (hx : x.okf w.heap.size w) (hy : y.okf w.heap.size w) : Calls Try.prog 55 [x.v, y.v].toArray w (Ret w (.bool (sameS x.p y.p))) := by
  refine enter Try.func55 Try.ntmps55 rfl rfl ?_
  have hE := Ext.refl w
  refine wp_seq ?_
  refine W_region ?_
  refine L (D_box (c := (x).l) (rfl) (fun aB1_0 w1_0 e1_0 gB1_0 hB1_0 => ?_))
  have lB1_0 := Nat.le_trans hE.size gB1_0
  replace hE := hE.trans e1_0
  refine L (D_box (c := (y).l) (rfl) (fun aB1_1 w1_1 e1_1 gB1_1 hB1_1 => ?_))
  have lB1_1 := Nat.le_trans hE.size gB1_1
  have nB1_0B1_1 := hB1_0.ne gB1_1
  replace hE := hE.trans e1_1
  replace hB1_0 := hB1_0.ext e1_1
  refine L (D_v (R_assign rfl) ?_)
  refine S_nil ?_
  refine T_tn ?_
  refine wp_seq ?_
  refine W_region ?_
  refine L (D_v (R_fieldAddr Try.runUnderlying53 rfl Try.sizeOf26 rfl) ?_)
  refine L (D_v (R_loadA (c := ((x).vote).l) Try.isAgg26 Try.sizeOf26 hB1_0 rfl rfl rfl) ?_)
  refine L (D_v (R_fieldAddr Try.runUnderlying53 rfl Try.sizeOf26 rfl) ?_)
  refine L (D_v (R_loadA (c := ((y).vote).l) Try.isAgg26 Try.sizeOf26 hB1_1 rfl rfl rfl) ?_)
  refine L (D_v (R_eqlA Try.eqGuardType26 (eq26 ((x).vote) ((y).vote) _) rfl rfl) ?_)
  refine L (D_v (R_move rfl) ?_)
  refine L (D_g1 rfl rfl (fun hb => R_fieldAddr Try.runUnderlying53 rfl Try.sizeOf31 rfl) ?_)
  refine L (D_g1 rfl rfl (fun hb => R_load Try.isAgg31 hB1_0 (cgE hb) rfl) ?_)
  refine L (D_g1 rfl rfl (fun hb => R_str (b := (x).sig) (cgE hb) (hx.fb (Fb.ext hE)).bs) ?_)
  refine L (D_g1 rfl rfl (fun hb => R_fieldAddr Try.runUnderlying53 rfl Try.sizeOf31 rfl) ?_)
  refine L (D_g1 rfl rfl (fun hb => R_load Try.isAgg31 hB1_1 (cgE hb) rfl) ?_)
  refine L (D_g1 rfl rfl (fun hb => R_str (b := (y).sig) (cgE hb) (hy.fb (Fb.ext hE)).bs) ?_)
  refine L (D_g1 rfl rfl (fun hb => R_eqlStr (a := (x).sig) (b := (y).sig) (cgE hb) (cgE hb)) ?_)
  refine L (D_v (R_pickA rfl rfl rfl) ?_)
  refine L (D_v (R_assign rfl) ?_)
  refine S_nil ?_
  refine T_tn ?_
  refine wp_ret ?_
  refine ret1 (v := .bool _) rfl rfl ⟨?_, hE⟩
  rfl
end Go.Proofs.Yteeopgpgbdhmhaa
namespace Go.Proofs.Yteeopgpgbdhmhaa
open Go.RowKit Go.Lib
set_option linter.unusedVariables false
theorem lessP_V {x y : Pv} (h : lessP x y = false) : lessV x.1 y.1 = false := by
  by_cases e : x.1 = y.1
  · rw [e]; exact less_irr _
  · rw [lessP_ne e] at h; exact h
theorem srt_at {zs : List Sg} (h : srtL zs) {i j : Nat} (hij : i < j) (hj : j < zs.length) : lessP (zs.getD j Sg.zero).p (zs.getD i Sg.zero).p = false :=
  h i j _ _ hij (getD_some (by omega)) (getD_some hj)
theorem srt_step {zs : List Sg} (h : srtL zs) {i k : Nat} (hik : i < k) (hk : k < zs.length) (hn : (zs.getD k Sg.zero).vote ≠ (zs.getD (k - 1) Sg.zero).vote) : lessV (zs.getD i Sg.zero).vote (zs.getD k Sg.zero).vote = true := by
  have h1 : lessV (zs.getD k Sg.zero).vote (zs.getD i Sg.zero).vote = false := lessP_V (srt_at h hik hk)
  have h2 : lessV (zs.getD k Sg.zero).vote (zs.getD (k - 1) Sg.zero).vote = false := lessP_V (srt_at h (by omega) hk)
  by_cases e : (zs.getD i Sg.zero).vote = (zs.getD k Sg.zero).vote
  · exfalso
    by_cases e2 : i = k - 1
    · subst e2; exact hn e.symm
    · have h3 : lessV (zs.getD (k - 1) Sg.zero).vote (zs.getD i Sg.zero).vote = false := lessP_V (srt_at h (by omega) (by omega))
      rw [e] at h3
      rcases less_total hn with h4 | h4
      · rw [h4] at h2; cases h2
      · rw [h4] at h3; cases h3
  · rcases less_total e with h4 | h4
    · exact h4
    · rw [h4] at h1; cases h1
theorem ddn_inv {zs : List Sg} (h : srtL zs) : ∀ k, k ≤ zs.length → asc ((ddn zs k).map Sg.p) ∧ (∀ y ∈ ddn zs k, ∃ i, i < k ∧ y = zs.getD i Sg.zero) ∧ (∀ i, i < k → ∃ j, j ≤ i ∧ zs.getD j Sg.zero ∈ ddn zs k ∧ (zs.getD j Sg.zero).vote = (zs.getD i Sg.zero).vote)
  | 0, _ => ⟨List.Pairwise.nil, fun y hy => by simp [ddn] at hy, fun i hi => by omega⟩
  | k + 1, hk => by
    obtain ⟨h1, h2, h3⟩ := ddn_inv h k (by omega)
    by_cases hc : k = 0 ∨ (zs.getD k Sg.zero).vote ≠ (zs.getD (k - 1) Sg.zero).vote
    · rw [← ddn_y rfl hc]
      refine ⟨?_, fun y hy => ?_, fun i hi => ?_⟩
      · rw [List.map_append]
        refine List.pairwise_append.2 ⟨h1, by simp, fun a ha b hb => ?_⟩
        obtain ⟨y, hy, rfl⟩ := List.mem_map.1 ha
        obtain ⟨i, hi, rfl⟩ := h2 y hy
        rw [List.map_singleton, List.mem_singleton] at hb
        subst hb
        rcases hc with hc | hc
        · omega
        · exact srt_step h hi (by omega) hc
      · rcases List.mem_append.1 hy with hy | hy
        · obtain ⟨i, hi, e⟩ := h2 y hy; exact ⟨i, by omega, e⟩
        · rw [List.mem_singleton] at hy; exact ⟨k, by omega, hy⟩
      · by_cases hik : i < k
        · obtain ⟨j, hj, hm, e⟩ := h3 i hik; exact ⟨j, hj, List.mem_append_left _ hm, e⟩
        · obtain rfl : i = k := by omega
          exact ⟨i, Nat.le_refl _, List.mem_append_right _ (List.mem_singleton_self _), rfl⟩
    · rw [← ddn_n (ys := ddn zs k) rfl hc]
      refine ⟨h1, fun y hy => ?_, fun i hi => ?_⟩
      · obtain ⟨i, hi, e⟩ := h2 y hy; exact ⟨i, by omega, e⟩
      · by_cases hik : i < k
        · exact h3 i hik
        · obtain rfl : i = k := by omega
          have hc2 : i ≠ 0 ∧ (zs.getD i Sg.zero).vote = (zs.getD (i - 1) Sg.zero).vote := by
            refine ⟨fun e => hc (.inl e), ?_⟩
            by_cases e : (zs.getD i Sg.zero).vote = (zs.getD (i - 1) Sg.zero).vote
            · exact e
            · exact absurd (.inr e) hc
          obtain ⟨j, hj, hm, e⟩ := h3 (i - 1) (by omega)
          exact ⟨j, by omega, hm, e.trans hc2.2.symm⟩
theorem ddn_can {zs : List Sg} (h : srtL zs) : IsCan (zs.map Sg.p) ((ddn zs zs.length).map Sg.p) := by
  obtain ⟨h1, h2, h3⟩ := ddn_inv h zs.length (Nat.le_refl _)
  refine ⟨h1, fun y hy => ?_, fun x hx => ?_⟩
  · obtain ⟨a, ha, rfl⟩ := List.mem_map.1 hy
    obtain ⟨i, hi, rfl⟩ := h2 a ha
    exact List.mem_map.2 ⟨_, List.mem_of_getElem? (getD_some hi), rfl⟩
  · obtain ⟨a, ha, rfl⟩ := List.mem_map.1 hx
    obtain ⟨i, hi⟩ := List.getElem?_of_mem ha
    have hil := (List.getElem?_eq_some_iff.1 hi).1
    have e1 : zs.getD i Sg.zero = a := by rw [List.getD_eq_getElem?_getD, hi]; rfl
    obtain ⟨j, hj, hm, e⟩ := h3 i hil
    refine ⟨_, List.mem_map.2 ⟨_, hm, rfl⟩, by rw [← e1]; exact e, ?_⟩
    rw [← e1]
    by_cases hij : j = i
    · subst hij; exact ltB_irr _
    · have := srt_at h (show j < i by omega) hil
      rw [lessP_eq (show (zs.getD i Sg.zero).p.1 = (zs.getD j Sg.zero).p.1 from e.symm)] at this
      exact this
/-- Canonical's result holds the canonical list of what went in. -/
theorem can_of {xs zs ys : List Sg} (h : srtL zs) (hm : ∀ p, p ∈ zs.map Sg.p ↔ p ∈ xs.map Sg.p) (hy : ys = ddn zs zs.length) : IsCan (xs.map Sg.p) (ys.map Sg.p) := by
  have := ddn_can h
  subst hy
  exact ⟨this.up, fun y hyy => (hm y).1 (this.sub y hyy), fun x hx => this.all x ((hm x).2 hx)⟩
end Go.Proofs.Yteeopgpgbdhmhaa
namespace Go.Proofs.Yteeopgpgbdhmhaa
open Go.RowKit Go.Lib
set_option linter.unusedVariables false
set_option linter.unusedSimpArgs false
section
variable {P : Program} {ops : Array Oper} {Q : Exit → Act → World → Prop} {K : Act → World → Prop} {n : Nat} {f : Nat → Value} {w : World} {d : Option Tmp} {op : Op} {ty : TypeId} {pos : String} {aft : Array Edge}
/-- A guard that is known to hold is none. -/
theorem D_on {j dj : Nat} {want : Bool} (hj : (ops[j]?).bind (·.dst) = some dj) (hb : ov n f (.tmp dj) = .bool want) (h : wpO P ops Q ⟨d, op, ty, pos, aft, none⟩ K (E n f) w) :
    wpO P ops Q ⟨d, op, ty, pos, aft, some (j, want)⟩ K (E n f) w := by
  have hw : Region.wanted (⟨d, op, ty, pos, aft, some (j, want)⟩ : Oper) (yielded ops (E n f).tmps) = (want == want) := wanted_b rfl hj hb
  simp only [wpO, Region.wanted, if_true] at h
  unfold wpO
  rw [if_pos (by rw [hw]; simp)]
  exact h
/-- A new map: a block that is none of those that were there. -/
theorem D_makeMap {t : TypeId} (k : ∀ g w', Ext w w' → w.heap.size ≤ g → w'.heap[g]? = some (.map #[] 0) → K (E n (upo f d (.map (some g)))) w') :
    wpO P ops Q ⟨d, .makeMap t none, ty, pos, aft, none⟩ K (E n f) w := by
  refine D_v (v := .map (some w.heap.size)) (w' := w.alloc (.map #[] 0)) ?_ (k _ _ (Ext.alloc _ _) (Nat.le_refl _) (by unfold World.alloc; exact Array.getElem?_push_size))
  simp [go_sem, Instr.makeMap]
end
theorem places108 (w : World) : ((#[⟨"seed", 24, 0, false, "", "forkledger/manytime", 0⟩, ⟨"levels", 3, 8, false, "", "forkledger/manytime", 8⟩, ⟨"trees", 106, 9, false, "", "forkledger/manytime", 16⟩] : Array Field).mapM fun (f : Field) => Prod.mk f.offset <$> sizeOf f.type).run Try.prog w = .ok #[(0, 8), (8, 1), (9, 1)] w := by
  simp [Try.sizeOf24, Try.sizeOf3, Try.sizeOf106, go_sem]
theorem fill108 (n : Nm) (l : Int) (m : Option Nat) : Instr.fill ((#[(0, 8), (8, 1), (9, 1)] : Array (Nat × Nat))[·]?) (Nm.zero.l ++ [i64 0, .map none]).toArray [(0, .agg n.l.toArray), (1, i64 l), (2, .map m)] = some (n.l ++ [i64 l, .map m]).toArray := by
  rw [fill_step (off := 0) (size := 8) (c := n.l) rfl rfl rfl (by decide), fill_step (off := 8) (size := 1) (c := [i64 l]) rfl rfl rfl (by simp [Nm.l]), fill_step (off := 9) (size := 1) (c := [.map m]) rfl rfl rfl (by simp [Nm.l]), Instr.fill]
  simp [Nm.l]
theorem two_sig {a b : Vt} {V W : Value} {z : UInt8} : ∀ x ∈ [mkSg a V [], mkSg b W [z]], x.sig.length ≤ 140737488355328 := by
  intro x hx
  rcases List.mem_cons.1 hx with h1 | h1
  · rw [h1]; exact Nat.zero_le _
  · rw [List.mem_singleton.1 h1]; show 1 ≤ _; omega
theorem can_one {a : Vt} {V W : Value} {s : List UInt8} {ys : List Sg} (h : IsCan ([mkSg a V [], mkSg a W s].map Sg.p) (ys.map Sg.p)) : ys.length = 1 := by
  have e1 : (mkSg a V []).p = (a, []) := rfl
  have e2 : (mkSg a W s).p = (a, s) := rfl
  have k : IsCan ([mkSg a V [], mkSg a W s].map Sg.p) [(a, [])] := by
    refine ⟨List.pairwise_singleton _ _, fun y hy => ?_, fun x hx => ⟨(a, []), List.mem_singleton_self _, ?_⟩⟩
    · rw [List.mem_singleton] at hy; subst hy; exact List.mem_cons_self ..
    · simp only [List.map_cons, List.map_nil, List.mem_cons, List.not_mem_nil, or_false, e1, e2] at hx
      rcases hx with rfl | rfl
      · exact ⟨rfl, rfl⟩
      · refine ⟨rfl, ?_⟩
        cases s <;> rfl
  have := IsCan.uniq (fun _ => Iff.rfl) h k
  have h2 := congrArg List.length this
  simpa using h2
section
variable {ρ : Operand → Value} {w : World} {dst : Option Tmp} {ty : TypeId} {pos : String} {aft : Array Edge} {gd : Option (Nat × Bool)}
theorem R_ptrNN {x y : Operand} {a : Addr} {t' : TypeId} (hx : ρ x = .pointer (some a)) (hy : ρ y = .pointer none) : (execOp ρ ⟨dst, .binOp .neq 71 x y t', ty, pos, aft, gd⟩).run Try.prog w = .ok (.value (.bool true)) w := by
  have e : (Op.equalIn Op.maxDepth 71 (.pointer (some a)) (.pointer none)).run Try.prog w = .ok false w := by
    show (Op.equalIn (Op.maxDepth - 1 + 1) 71 (.pointer (some a)) (.pointer none)).run Try.prog w = .ok false w
    simp [Op.equalIn, run_underlying Try.underlying71]
  simp [go_sem, hx, hy, binOp, Op.equal, e]
theorem R_mapNN {x y : Operand} {m : Nat} {t' : TypeId} (hx : ρ x = .map (some m)) (hy : ρ y = .map none) : (execOp ρ ⟨dst, .binOp .neq 106 x y t', ty, pos, aft, gd⟩).run Try.prog w = .ok (.value (.bool true)) w := by
  have hu : ∃ k e, Try.prog.underlying 106 = some (.map k e) := ⟨_, _, Try.underlying106⟩
  obtain ⟨kk, ee, hu⟩ := hu
  have e : (Op.equalIn Op.maxDepth 106 (.map (some m)) (.map none)).run Try.prog w = .ok false w := by
    show (Op.equalIn (Op.maxDepth - 1 + 1) 106 (.map (some m)) (.map none)).run Try.prog w = .ok false w
    simp [Op.equalIn, run_underlying hu]
  simp [go_sem, hx, hy, binOp, Op.equal, e]
end
end Go.Proofs.Yteeopgpgbdhmhaa
namespace Go.Proofs.Yteeopgpgbdhmhaa
open Go.RowKit
set_option linter.unusedVariables false
set_option linter.unusedSimpArgs false
attribute [local irreducible] wpList wpO H wpQuiet wpStill Code.wp Exit.then Exit.inBlock bodyPost Code.rounds Calls valid lessV hless num between
set_option maxRecDepth 4000 in
set_option maxHeartbeats 1000000 in
theorem c60 (n : Nm) (w : World) : Calls Try.prog 60 [n.v, i64 2].toArray w (RetE w fun r w' => ∃ g m, r = .pointer (some ⟨g, 0, none⟩) ∧ w.heap.size ≤ g ∧ Blk w' g ((n).l ++ [i64 (2), .map (some m)]) 108) := by
  refine enter Try.func60 Try.ntmps60 rfl rfl ?_
  have hE := Ext.refl w
  refine wp_seq ?_
  refine W_region ?_
  refine L (D_box (c := (n).l) (rfl) (fun aB1_0 w1_0 e1_0 gB1_0 hB1_0 => ?_))
  have lB1_0 := Nat.le_trans hE.size gB1_0
  replace hE := hE.trans e1_0
  refine L (D_v (R_assign rfl) ?_)
  refine S_nil ?_
  refine T_tn ?_
  refine wp_seq ?_
  refine wp_seq ?_
  refine W_region ?_
  refine L (D_v (R_move rfl) ?_)
  refine L (D_call (R_callF Try.call98 rfl rfl) (c98_2 _) (fun w2_1 e2_1 => ?_))
  replace hE := hE.trans e2_1
  replace hB1_0 := hB1_0.ext e2_1
  refine L (D_v (R_cast (v' := .bool false) (R_eqlI rfl rfl) rfl) ?_)
  refine S_nil ?_
  refine T_tn ?_
  refine W_iff rfl ?_
  refine wp_skip ?_
  refine T_tn ?_
  refine wp_seq ?_
  refine W_region ?_
  refine L (D_v (R_loadA (c := (n).l) Try.isAgg24 Try.sizeOf24 hB1_0 rfl rfl rfl) ?_)
  refine L (D_v (R_move rfl) ?_)
  refine L (D_makeMap (fun m3_2 w3_2 e3_2 gm3_2 hm3_2 => ?_))
  replace hE := hE.trans e3_2
  replace hB1_0 := hB1_0.ext e3_2
  refine L (D_v (R_buildS (vs := [(0, .agg (n).l.toArray), (1, i64 (2)), (2, .map (some m3_2))]) (c := (n).l ++ [i64 (2), .map (some m3_2)]) Try.runUnderlying108 places108 Try.zeroValue108 rfl (fill108 _ _ _)) ?_)
  refine L (D_box (c := (n).l ++ [i64 (2), .map (some m3_2)]) (rfl) (fun aB3_4 w3_4 e3_4 gB3_4 hB3_4 => ?_))
  have lB3_4 := Nat.le_trans hE.size gB3_4
  have nB1_0B3_4 := hB1_0.ne gB3_4
  replace hE := hE.trans e3_4
  replace hB1_0 := hB1_0.ext e3_4
  refine L (D_v (R_assign rfl) ?_)
  refine S_nil ?_
  refine T_tn ?_
  refine wp_ret ?_
  refine ret1 (v := _) rfl rfl ⟨_, rfl, hE, ?_⟩
  exact ⟨aB3_4, _, rfl, lB3_4, hB3_4⟩
set_option maxRecDepth 4000 in
set_option maxHeartbeats 1000000 in
theorem c128 (n : Nm) (m aK : Nat) (w : World) (hTK : Blk w aK ((n).l ++ [i64 (2), .map (some m)]) 108) : Calls Try.prog 128 [.pointer (some ⟨aK, 0, none⟩)].toArray w (Ret w (.bool true)) := by
  refine enter Try.func128 Try.ntmps128 rfl rfl ?_
  have hE := Ext.refl w
  refine wp_seq ?_
  refine W_region ?_
  refine L (D_v (R_assign rfl) ?_)
  refine S_nil ?_
  refine T_tn ?_
  refine wp_seq ?_
  refine W_region ?_
  refine L (D_v (R_move rfl) ?_)
  refine L (D_v (R_ptrNN rfl rfl) ?_)
  refine L (D_v (R_move rfl) ?_)
  refine L (D_on rfl rfl (D_v (R_move rfl) ?_))
  refine L (D_on rfl rfl (D_v (R_nilCheck rfl) ?_))
  refine L (D_on rfl rfl (D_v (R_fieldAddr Try.runUnderlying108 rfl Try.sizeOf106 rfl) ?_))
  refine L (D_on rfl rfl (D_v (R_load Try.isAgg106 hTK rfl rfl) ?_))
  refine L (D_on rfl rfl (D_v (R_mapNN rfl rfl) ?_))
  refine L (D_v (R_cast (v' := .bool true) (R_pick rfl rfl rfl) rfl) ?_)
  refine L (D_v (R_assign rfl) ?_)
  refine S_nil ?_
  refine T_tn ?_
  refine wp_ret ?_
  refine ret1 (v := .bool _) rfl rfl ⟨congrArg (fun b => Ending.returned (Value.bool b)) ?_, hE⟩
  rfl
set_option maxRecDepth 4000 in
set_option maxHeartbeats 1000000 in
theorem c97_n (n : Nm) (m aK : Nat) (x : Nm) (w : World) (hTK : Blk w aK ((n).l ++ [i64 (2), .map (some m)]) 108) : Calls Try.prog 97 [.pointer (some ⟨aK, 0, none⟩), i64 1024, x.v].toArray w (Ret w (.tuple #[.slice none 0 0, .bool false])) := by
  refine enter Try.func97 Try.ntmps97 rfl rfl ?_
  have hE := Ext.refl w
  refine wp_seq ?_
  refine W_region ?_
  refine L (D_box (c := (x).l) (rfl) (fun aB1_0 w1_0 e1_0 gB1_0 hB1_0 => ?_))
  have lB1_0 := Nat.le_trans hE.size gB1_0
  have nKB1_0 := hTK.ne gB1_0
  replace hE := hE.trans e1_0
  replace hTK := hTK.ext e1_0
  refine L (D_v (R_assign rfl) ?_)
  refine L (D_v (R_assign rfl) ?_)
  refine S_nil ?_
  refine T_tn ?_
  refine wp_seq ?_
  refine wp_seq ?_
  refine W_region ?_
  refine L (D_v (R_move rfl) ?_)
  refine L (D_call (R_callF Try.call128 rfl rfl) (c128 (n) m aK _ hTK) (fun w2_1 e2_1 => ?_))
  replace hE := hE.trans e2_1
  replace hTK := hTK.ext e2_1
  replace hB1_0 := hB1_0.ext e2_1
  refine L (D_v (R_not rfl) ?_)
  refine L (D_v (R_move rfl) ?_)
  refine L (D_on rfl rfl (D_v (R_move rfl) ?_))
  refine L (D_on rfl rfl (D_v (R_cast (v' := .bool false) (R_lssI rfl rfl) rfl) ?_))
  refine L (D_v (R_cast (v' := .bool false) (R_pick rfl rfl rfl) rfl) ?_)
  refine L (D_v (R_move rfl) ?_)
  refine L (D_on rfl rfl (D_v (R_move rfl) ?_))
  refine L (D_on rfl rfl (D_v (R_move rfl) ?_))
  refine L (D_on rfl rfl (D_v (R_nilCheck rfl) ?_))
  refine L (D_on rfl rfl (D_v (R_fieldAddr Try.runUnderlying108 rfl Try.sizeOf3 rfl) ?_))
  refine L (D_on rfl rfl (D_v (R_load Try.isAgg3 hTK rfl rfl) ?_))
  refine L (D_on rfl rfl (D_call (R_callF Try.call98 rfl rfl) (c98_2 _) (fun w2_13 e2_13 => ?_)))
  replace hE := hE.trans e2_13
  replace hTK := hTK.ext e2_13
  replace hB1_0 := hB1_0.ext e2_13
  refine L (D_on rfl rfl (D_v (R_cast (v' := .bool true) (R_geqI rfl rfl) rfl) ?_))
  refine L (D_v (R_cast (v' := .bool true) (R_pick rfl rfl rfl) rfl) ?_)
  refine S_nil ?_
  refine T_tn ?_
  refine W_ift rfl ?_
  refine wp_seq ?_
  refine W_region ?_
  refine L (D_v (R_assign rfl) ?_)
  refine L (D_v (R_assign rfl) ?_)
  refine S_nil ?_
  refine T_tn ?_
  refine wp_ret ?_
  refine T_tr ?_
  refine ret2 (v := _) (v2 := .bool _) rfl rfl rfl ⟨?_, hE⟩
  rfl
set_option maxRecDepth 4000 in
set_option maxHeartbeats 1000000 in
theorem c59_n (n : Nm) (m aK : Nat) (x : Vt) (w : World) (hTK : Blk w aK ((n).l ++ [i64 (2), .map (some m)]) 108) : Calls Try.prog 59 [.pointer (some ⟨aK, 0, none⟩), i64 1024, x.v].toArray w (Ret w (.tuple #[Sg.zero.v, .bool false])) := by
  refine enter Try.func59 Try.ntmps59 rfl rfl ?_
  have hE := Ext.refl w
  refine wp_seq ?_
  refine W_region ?_
  refine L (D_box (c := (x).l) (rfl) (fun aB1_0 w1_0 e1_0 gB1_0 hB1_0 => ?_))
  have lB1_0 := Nat.le_trans hE.size gB1_0
  have nKB1_0 := hTK.ne gB1_0
  replace hE := hE.trans e1_0
  replace hTK := hTK.ext e1_0
  refine L (D_alloc (c := (Sg.zero).l) Try.zeroValue53 rfl (fun aB1_1 w1_1 e1_1 gB1_1 hB1_1 => ?_))
  have lB1_1 := Nat.le_trans hE.size gB1_1
  have nKB1_1 := hTK.ne gB1_1
  have nB1_0B1_1 := hB1_0.ne gB1_1
  replace hE := hE.trans e1_1
  replace hTK := hTK.ext e1_1
  replace hB1_0 := hB1_0.ext e1_1
  refine L (D_v (R_assign rfl) ?_)
  refine S_nil ?_
  refine T_tn ?_
  refine wp_seq ?_
  refine wp_seq ?_
  refine W_region ?_
  refine L (D_v (R_loadA (c := (x).l) Try.isAgg26 Try.sizeOf26 hB1_0 rfl rfl rfl) ?_)
  refine L (D_call (R_callF Try.call26 rfl rfl) (c26 (x) _ ) (fun w2_1 e2_1 => ?_))
  replace hE := hE.trans e2_1
  replace hTK := hTK.ext e2_1
  replace hB1_0 := hB1_0.ext e2_1
  replace hB1_1 := hB1_1.ext e2_1
  refine L (D_v (R_not rfl) ?_)
  refine S_nil ?_
  refine T_tn ?_
  refine W_if rfl (fun c1 => ?_) (fun c1 => ?_)
  ·
    refine wp_seq ?_
    refine W_region ?_
    refine L (D_v (R_buildS (c := Sg.zero.l) Try.runUnderlying53 places53 Try.zeroValue53 rfl rfl) ?_)
    have h0 := hB1_1
    refine L (D_storeA Try.sizeOf53 hB1_1 rfl rfl rfl rfl rfl (l' := (Sg.zero).l) rfl (fun w3_1 k3_1 hB1_1 => ?_))
    replace hE := hE.kp k3_1 lB1_1
    refine L (D_v (R_assign rfl) ?_)
    refine S_nil ?_
    refine T_tn ?_
    refine wp_ret ?_
    refine T_tr ?_
    refine retct (c := (Sg.zero).l) (v2 := .bool false) rfl rfl rfl Try.isAgg53 Try.sizeOf53 hB1_1 rfl rfl ⟨?_, hE⟩
    rfl
  ·
    refine wp_skip ?_
    refine T_tn ?_
    refine wp_seq ?_
    refine W_region ?_
    refine L (D_v (R_move rfl) ?_)
    refine L (D_v (R_move rfl) ?_)
    refine L (D_v (R_loadA (c := (x).l) Try.isAgg26 Try.sizeOf26 hB1_0 rfl rfl rfl) ?_)
    refine L (D_call (R_callF Try.call36 rfl rfl) (c36 (x) _) (fun w3_3 e3_3 => ?_))
    replace hE := hE.trans e3_3
    replace hTK := hTK.ext e3_3
    replace hB1_0 := hB1_0.ext e3_3
    replace hB1_1 := hB1_1.ext e3_3
    refine L (D_call (R_callF Try.call97 rfl rfl) (c97_n (n) m aK ((nameV x)) _ hTK) (fun w3_4 e3_4 => ?_))
    replace hE := hE.trans e3_4
    replace hTK := hTK.ext e3_4
    replace hB1_0 := hB1_0.ext e3_4
    replace hB1_1 := hB1_1.ext e3_4
    refine L (D_v (R_move rfl) ?_)
    refine L (D_v (R_extract rfl rfl) ?_)
    refine L (D_v (R_extract rfl rfl) ?_)
    refine L (D_v (R_assign rfl) ?_)
    refine L (D_v (R_assign rfl) ?_)
    refine S_nil ?_
    refine T_tn ?_
    refine wp_seq ?_
    refine wp_seq ?_
    refine W_region ?_
    refine L (D_v (R_move rfl) ?_)
    refine L (D_v (R_not rfl) ?_)
    refine S_nil ?_
    refine T_tn ?_
    refine W_ift rfl ?_
    refine wp_seq ?_
    refine W_region ?_
    refine L (D_v (R_buildS (c := Sg.zero.l) Try.runUnderlying53 places53 Try.zeroValue53 rfl rfl) ?_)
    have h0 := hB1_1
    refine L (D_storeA Try.sizeOf53 hB1_1 rfl rfl rfl rfl rfl (l' := (Sg.zero).l) rfl (fun w5_1 k5_1 hB1_1 => ?_))
    replace hE := hE.kp k5_1 lB1_1
    refine L (D_v (R_assign rfl) ?_)
    refine S_nil ?_
    refine T_tn ?_
    refine wp_ret ?_
    refine T_tr ?_
    refine retct (c := (Sg.zero).l) (v2 := .bool false) rfl rfl rfl Try.isAgg53 Try.sizeOf53 hB1_1 rfl rfl ⟨?_, hE⟩
    rfl
set_option maxRecDepth 4000 in
set_option maxHeartbeats 1000000 in
theorem c53_n (n : Nm) (x : Vt) (w : World) : Calls Try.prog 53 [n.v, i64 1024, x.v].toArray w (Ret w (.tuple #[Sg.zero.v, .bool false])) := by
  refine enter Try.func53 Try.ntmps53 rfl rfl ?_
  have hE := Ext.refl w
  refine wp_seq ?_
  refine W_region ?_
  refine L (D_box (c := (n).l) (rfl) (fun aB1_0 w1_0 e1_0 gB1_0 hB1_0 => ?_))
  have lB1_0 := Nat.le_trans hE.size gB1_0
  replace hE := hE.trans e1_0
  refine L (D_box (c := (x).l) (rfl) (fun aB1_1 w1_1 e1_1 gB1_1 hB1_1 => ?_))
  have lB1_1 := Nat.le_trans hE.size gB1_1
  have nB1_0B1_1 := hB1_0.ne gB1_1
  replace hE := hE.trans e1_1
  replace hB1_0 := hB1_0.ext e1_1
  refine L (D_alloc (c := (Sg.zero).l) Try.zeroValue53 rfl (fun aB1_2 w1_2 e1_2 gB1_2 hB1_2 => ?_))
  have lB1_2 := Nat.le_trans hE.size gB1_2
  have nB1_0B1_2 := hB1_0.ne gB1_2
  have nB1_1B1_2 := hB1_1.ne gB1_2
  replace hE := hE.trans e1_2
  replace hB1_0 := hB1_0.ext e1_2
  replace hB1_1 := hB1_1.ext e1_2
  refine L (D_v (R_assign rfl) ?_)
  refine S_nil ?_
  refine T_tn ?_
  refine wp_seq ?_
  refine W_held (fun W => Ext w W ∧ Blk W aB1_0 (n).l 24 ∧ Blk W aB1_1 (x).l 26 ∧ True) mixed (fun w2_99 e2_99 => ?_)
  replace hE := hE.trans e2_99
  replace hB1_0 := hB1_0.ext e2_99
  replace hB1_1 := hB1_1.ext e2_99
  replace hB1_2 := hB1_2.ext e2_99
  refine H_take (i := 0) rfl (by kernel_rfl) (by kernel_rfl) (by kernel_rfl) rfl (pq_then pq_body) ⟨hE, hB1_0, hB1_1, trivial⟩ rfl (fun w hw => R_loadA (c := (n).l) Try.isAgg24 Try.sizeOf24 hw.2.1 rfl rfl rfl) ?_
  refine H_take (i := 2) rfl (by kernel_rfl) (by kernel_rfl) (by kernel_rfl) rfl (pq_then pq_body) ⟨hE, hB1_0, hB1_1, trivial⟩ rfl (fun w hw => R_move rfl) ?_
  refine H_take (i := 3) rfl (by kernel_rfl) (by kernel_rfl) (by kernel_rfl) rfl (pq_then pq_body) ⟨hE, hB1_0, hB1_1, trivial⟩ rfl (fun w hw => R_loadA (c := (x).l) Try.isAgg26 Try.sizeOf26 hw.2.2.1 rfl rfl rfl) ?_
  refine H_op (i := 1) (by kernel_rfl) rfl rfl (D_callE (R_callF Try.call60 rfl rfl) (c60 (n) _) (fun v2_1 w2_1 e2_1 p2_1 => ?_))
  obtain ⟨aK2_1, m2_1, rfl, gK2_1, hK2_1⟩ := p2_1
  have lK2_1 := Nat.le_trans hE.size gK2_1
  have nB1_0K2_1 := hB1_0.ne gK2_1
  have nB1_1K2_1 := hB1_1.ne gK2_1
  have nB1_2K2_1 := hB1_2.ne gK2_1
  replace hE := hE.trans e2_1
  replace hB1_0 := hB1_0.ext e2_1
  replace hB1_1 := hB1_1.ext e2_1
  replace hB1_2 := hB1_2.ext e2_1
  refine ⟨⟨hE, hB1_0, hB1_1, trivial⟩, ?_⟩
  refine H_op (i := 4) (by kernel_rfl) rfl rfl (D_call (R_callF Try.call59 rfl rfl) (c59_n (n) m2_1 aK2_1 (x) _ hK2_1) (fun w2_4 e2_4 => ?_))
  replace hE := hE.trans e2_4
  replace hB1_0 := hB1_0.ext e2_4
  replace hB1_1 := hB1_1.ext e2_4
  replace hB1_2 := hB1_2.ext e2_4
  replace hK2_1 := hK2_1.ext e2_4
  refine ⟨⟨hE, hB1_0, hB1_1, trivial⟩, ?_⟩
  refine H_take (i := 5) rfl (by kernel_rfl) (by kernel_rfl) (by kernel_rfl) rfl (pq_then pq_body) ⟨hE, hB1_0, hB1_1, trivial⟩ rfl (fun w hw => R_extract rfl rfl) ?_
  refine H_take (i := 6) rfl (by kernel_rfl) (by kernel_rfl) (by kernel_rfl) rfl (pq_then pq_body) ⟨hE, hB1_0, hB1_1, trivial⟩ rfl (fun w hw => R_extract rfl rfl) ?_
  have h0 := hB1_2
  refine H_op (i := 7) (by kernel_rfl) rfl rfl (D_storeA Try.sizeOf53 hB1_2 rfl rfl rfl rfl rfl (l' := (Sg.zero).l) rfl (fun w2_7 k2_7 hB1_2 => ?_))
  replace hE := hE.kp k2_7 lB1_2
  replace hB1_0 := hB1_0.kp k2_7 nB1_0B1_2
  replace hB1_1 := hB1_1.kp k2_7 nB1_1B1_2
  replace hK2_1 := hK2_1.kp k2_7 nB1_2K2_1.symm
  refine ⟨⟨hE, hB1_0, hB1_1, trivial⟩, ?_⟩
  refine H_take (i := 8) rfl (by kernel_rfl) (by kernel_rfl) (by kernel_rfl) rfl (pq_then pq_body) ⟨hE, hB1_0, hB1_1, trivial⟩ rfl (fun w hw => R_assign rfl) ?_
  refine H_done (by kernel_rfl) ?_
  refine T_tn ?_
  refine wp_ret ?_
  refine retct (c := (Sg.zero).l) (v2 := .bool false) rfl rfl rfl Try.isAgg53 Try.sizeOf53 hB1_2 rfl rfl ⟨?_, hE⟩
  rfl
set_option maxRecDepth 4000 in
set_option maxHeartbeats 1000000 in
theorem c56  (w : World) : Calls Try.prog 56 [].toArray w (Ret w (.bool true)) := by
  refine enter Try.func56 Try.ntmps56 rfl rfl ?_
  have hE := Ext.refl w
  refine wp_seq ?_
  refine W_region ?_
  refine L (D_v (R_assign rfl) ?_)
  refine S_nil ?_
  refine T_tn ?_
  refine wp_seq ?_
  refine W_region ?_
  refine L (D_alloc (c := (Nm.zero).l) Try.zeroValue24 rfl (fun aB2_0 w2_0 e2_0 gB2_0 hB2_0 => ?_))
  have lB2_0 := Nat.le_trans hE.size gB2_0
  replace hE := hE.trans e2_0
  refine S_nil ?_
  refine T_tn ?_
  refine wp_seq ?_
  refine W_region ?_
  refine L (D_v (R_buildS (vs := [(0, i64 (3)), (2, i64 (1)), (4, i64 (1))]) (c := ((⟨3, 0, 1, 0, 1, 0, Nm.zero, Nm.zero⟩ : Vt)).l) Try.runUnderlying26 places26 Try.zeroValue26 rfl rfl) ?_)
  refine L (D_alloc (c := (Vt.zero).l) Try.zeroValue26 rfl (fun aB3_1 w3_1 e3_1 gB3_1 hB3_1 => ?_))
  have lB3_1 := Nat.le_trans hE.size gB3_1
  have nB2_0B3_1 := hB2_0.ne gB3_1
  replace hE := hE.trans e3_1
  replace hB2_0 := hB2_0.ext e3_1
  have h0 := hB3_1
  refine L (D_storeA Try.sizeOf26 hB3_1 rfl rfl rfl rfl rfl (l' := ((⟨3, 0, 1, 0, 1, 0, Nm.zero, Nm.zero⟩ : Vt)).l) rfl (fun w3_2 k3_2 hB3_1 => ?_))
  replace hE := hE.kp k3_2 lB3_1
  replace hB2_0 := hB2_0.kp k3_2 nB2_0B3_1
  refine S_nil ?_
  refine T_tn ?_
  refine wp_seq ?_
  refine W_region ?_
  refine L (D_v (R_loadA (c := (Nm.zero).l) Try.isAgg24 Try.sizeOf24 hB2_0 rfl rfl rfl) ?_)
  refine L (D_v (R_loadA (c := ((⟨3, 0, 1, 0, 1, 0, Nm.zero, Nm.zero⟩ : Vt)).l) Try.isAgg26 Try.sizeOf26 hB3_1 rfl rfl rfl) ?_)
  refine L (D_call (R_callF Try.call53 rfl rfl) (c53_n (Nm.zero) ((⟨3, 0, 1, 0, 1, 0, Nm.zero, Nm.zero⟩ : Vt)) _) (fun w4_2 e4_2 => ?_))
  replace hE := hE.trans e4_2
  replace hB2_0 := hB2_0.ext e4_2
  replace hB3_1 := hB3_1.ext e4_2
  refine L (D_v (R_move rfl) ?_)
  refine L (D_v (R_extract rfl rfl) ?_)
  refine L (D_v (R_extract rfl rfl) ?_)
  refine L (D_alloc (c := (Sg.zero).l) Try.zeroValue53 rfl (fun aB4_6 w4_6 e4_6 gB4_6 hB4_6 => ?_))
  have lB4_6 := Nat.le_trans hE.size gB4_6
  have nB2_0B4_6 := hB2_0.ne gB4_6
  have nB3_1B4_6 := hB3_1.ne gB4_6
  replace hE := hE.trans e4_6
  replace hB2_0 := hB2_0.ext e4_6
  replace hB3_1 := hB3_1.ext e4_6
  have h0 := hB4_6
  refine L (D_storeA Try.sizeOf53 hB4_6 rfl rfl rfl rfl rfl (l' := (Sg.zero).l) rfl (fun w4_7 k4_7 hB4_6 => ?_))
  replace hE := hE.kp k4_7 lB4_6
  replace hB2_0 := hB2_0.kp k4_7 nB2_0B4_6
  replace hB3_1 := hB3_1.kp k4_7 nB3_1B4_6
  refine L (D_v (R_assign rfl) ?_)
  refine S_nil ?_
  refine T_tn ?_
  refine wp_seq ?_
  refine W_region ?_
  refine L (D_v (R_move rfl) ?_)
  refine L (D_v (R_not rfl) ?_)
  refine L (D_v (R_move rfl) ?_)
  refine L (D_v (R_cast (v' := .bool true) (R_pick rfl rfl rfl) rfl) ?_)
  refine L (D_v (R_move rfl) ?_)
  refine L (D_on rfl rfl (D_v (R_loadA (c := ((⟨3, 0, 1, 0, 1, 0, Nm.zero, Nm.zero⟩ : Vt)).l) Try.isAgg26 Try.sizeOf26 hB3_1 rfl rfl rfl) ?_))
  refine L (D_on rfl rfl (D_v (R_buildS (vs := [(0, .agg ((⟨3, 0, 1, 0, 1, 0, Nm.zero, Nm.zero⟩ : Vt)).l.toArray)]) (c := (mkSg ((⟨3, 0, 1, 0, 1, 0, Nm.zero, Nm.zero⟩ : Vt)) (.slice none 0 0) []).l) Try.runUnderlying53 places53 Try.zeroValue53 (mapp1 rfl) (fill53z _)) ?_))
  refine L (D_on rfl rfl (D_v (R_loadA (c := ((⟨3, 0, 1, 0, 1, 0, Nm.zero, Nm.zero⟩ : Vt)).l) Try.isAgg26 Try.sizeOf26 hB3_1 rfl rfl rfl) ?_))
  refine L (D_on rfl rfl (D_buildB (vs := [(0, u8 (1))]) (b := [1]) Try.underlying31 Try.sizeOf5 Try.zeroValue5 rfl (fillB1 _) rfl rfl rfl (fun v5_8 w5_8 o5_8 e5_8 => ?_)))
  replace o5_8 := o5_8.lo hE.size
  replace hE := hE.trans e5_8
  replace hB3_1 := hB3_1.ext e5_8
  have k5_9 : Sg.okf w.heap.size w5_8 (mkSg ((⟨3, 0, 1, 0, 1, 0, Nm.zero, Nm.zero⟩ : Vt)) v5_8 [1]) := mkSg_ok _ (Bf.own o5_8)
  refine L (D_on rfl rfl (D_v (R_buildS (vs := [(0, .agg ((⟨3, 0, 1, 0, 1, 0, Nm.zero, Nm.zero⟩ : Vt)).l.toArray), (1, v5_8)]) (c := (mkSg ((⟨3, 0, 1, 0, 1, 0, Nm.zero, Nm.zero⟩ : Vt)) v5_8 [1]).l) Try.runUnderlying53 places53 Try.zeroValue53 (mapp2 rfl rfl) (fill53 _ o5_8.bs)) ?_))
  refine L (D_on rfl rfl (D_buildL2 (C := cS) (lo := w.heap.size) (y := (mkSg ((⟨3, 0, 1, 0, 1, 0, Nm.zero, Nm.zero⟩ : Vt)) (.slice none 0 0) [])) (y2 := (mkSg ((⟨3, 0, 1, 0, 1, 0, Nm.zero, Nm.zero⟩ : Vt)) v5_8 [1])) Try.underlying46 Try.sizeOf53 Try.zeroValue53 (mapp2 rfl rfl) (by decide) (mkSg_ok _ (Bf.nil _ _)) k5_9 (fun v5_10 w5_10 o5_10 e5_10 => ?_)))
  replace o5_10 := o5_10.low hE.size
  replace hE := hE.trans e5_10
  replace hB3_1 := hB3_1.ext e5_10
  replace o5_8 := o5_8.ext e5_10
  replace k5_9 := k5_9.fb (Fb.ext e5_10)
  refine L (D_on rfl rfl (D_callE (R_callF Try.call57 rfl rfl) (c57 w.heap.size v5_10 ([(mkSg ((⟨3, 0, 1, 0, 1, 0, Nm.zero, Nm.zero⟩ : Vt)) (.slice none 0 0) []), (mkSg ((⟨3, 0, 1, 0, 1, 0, Nm.zero, Nm.zero⟩ : Vt)) v5_8 [1])]) _ (Nat.le_trans (Nat.le_refl _) hE.size) (by (try simp only [List.length_take, List.length_drop, List.length_append, List.length_cons, List.length_nil, List.length_replicate, List.length_set, Nm.b_len, be2_len]); omega) o5_10.ls two_sig) (fun v5_11 w5_11 e5_11 p5_11 => ?_)))
  obtain ⟨y5_11, o5_11, zz5_11, za5_11, zb5_11, zc5_11, zd5_11⟩ := p5_11
  have zv5_10_v5_11 := own_apart o5_10.1 o5_11.1
  have zv5_11_v5_10 := fun k hk hk2 => zv5_10_v5_11 k hk2 hk
  replace o5_11 := o5_11.low hE.size
  replace hE := hE.trans e5_11
  replace hB3_1 := hB3_1.ext e5_11
  replace o5_8 := o5_8.ext e5_11
  replace o5_10 := o5_10.ext e5_11
  replace k5_9 := k5_9.fb (Fb.ext e5_11)
  refine L (D_on rfl rfl (D_v (R_len Try.underlying46 rfl o5_11.ls.1) ?_))
  refine L (D_on rfl rfl (D_v (R_eqlI rfl rfl) ?_))
  refine L (D_v (R_pick rfl rfl rfl) ?_)
  refine L (D_v (R_assign rfl) ?_)
  refine S_nil ?_
  refine T_tn ?_
  refine wp_ret ?_
  have hcan := can_of zc5_11 zb5_11 zd5_11
  have hone := can_one hcan
  refine ret1 (v := .bool _) rfl rfl ⟨congrArg (fun b => Ending.returned (Value.bool b)) ?_, hE⟩
  simp [hone]
end Go.Proofs.Yteeopgpgbdhmhaa
namespace Go.Proofs.Yteeopgpgbdhmhaa
open Go.ChangeShapes Go.WideShapes Go.ChangeAt Go.RowKit
set_option linter.unusedVariables false
set_option maxRecDepth 20000
set_option linter.constructorNameAsVariable false
variable {H : Type} {enc : TypeId × Value → H} {w : World} {base : Nat} {sp : Nat → Bool} {held : Bool}
theorem sameS_refl (p : Pv) : sameS p p = true := by simp [sameS]
end Go.Proofs.Yteeopgpgbdhmhaa
namespace Go.Proofs.Yteeopgpgbdhmhaa
open Go.RowKit Go.Lib
set_option linter.unusedVariables false
def listS (xs ys : List Sg) : Bool := decide (xs.map Sg.p = ys.map Sg.p)
theorem sameS_iff {a b : Pv} : sameS a b = true ↔ a = b := by
  unfold sameS
  simp only [Bool.and_eq_true, decide_eq_true_eq]
  exact ⟨fun h => Prod.ext h.1 h.2, fun h => by rw [h]; exact ⟨rfl, rfl⟩⟩
theorem listS_len {xs ys : List Sg} (h : xs.length ≠ ys.length) : listS xs ys = false := by
  unfold listS
  refine decide_eq_false fun e => h ?_
  have := congrArg List.length e
  simpa using this
theorem listS_at {xs ys : List Sg} {i : Nat} (hx : i < xs.length) (hy : i < ys.length) (h : sameS (xs.getD i Sg.zero).p (ys.getD i Sg.zero).p = false) : listS xs ys = false := by
  unfold listS
  refine decide_eq_false fun e => ?_
  have h1 := congrArg (fun l => l[i]?) e
  simp only [List.getElem?_map, getD_some (d := Sg.zero) hx, getD_some (d := Sg.zero) hy, Option.map_some, Option.some.injEq] at h1
  rw [h1] at h
  rw [sameS_refl] at h; cases h
theorem listS_next {xs ys : List Sg} {i : Nat} (ha : (xs.take i).map Sg.p = (ys.take i).map Sg.p) (hx : i < xs.length) (hy : i < ys.length) (h : sameS (xs.getD i Sg.zero).p (ys.getD i Sg.zero).p = true) : (xs.take (i + 1)).map Sg.p = (ys.take (i + 1)).map Sg.p := by
  have h1 := sameS_iff.1 h
  rw [List.take_add_one, List.take_add_one, List.map_append, List.map_append, ha, getD_some (d := Sg.zero) hx, getD_some (d := Sg.zero) hy]
  simp only [Option.toList_some, List.map_cons, List.map_nil, h1]
theorem listS_all {xs ys : List Sg} (hl : xs.length = ys.length) (ha : (xs.take xs.length).map Sg.p = (ys.take xs.length).map Sg.p) : listS xs ys = true := by
  unfold listS
  refine decide_eq_true ?_
  rw [List.take_of_length_le (Nat.le_refl _), List.take_of_length_le (by omega)] at ha
  exact ha
end Go.Proofs.Yteeopgpgbdhmhaa
namespace Go.Proofs.Yteeopgpgbdhmhaa
open Go.RowKit
set_option linter.unusedVariables false
set_option linter.unusedSimpArgs false
attribute [local irreducible] wpList wpO H wpQuiet wpStill Code.wp Exit.then Exit.inBlock bodyPost Code.rounds Calls valid lessV hless num between
set_option maxRecDepth 4000 in
set_option maxHeartbeats 1000000 in
theorem c58 (v u : Value) (xs ys : List Sg) (w : World) (hn : xs.length ≤ 1000000) (h : Ls cS w.heap.size w v xs) (hy : Ls cS w.heap.size w u ys) : Calls Try.prog 58 [v, u].toArray w (Ret w (.bool (listS xs ys))) := by
  refine enter Try.func58 Try.ntmps58 rfl rfl ?_
  have hE := Ext.refl w
  refine wp_seq ?_
  refine W_region ?_
  refine L (D_v (R_assign rfl) ?_)
  refine S_nil ?_
  refine T_tn ?_
  refine wp_seq ?_
  refine wp_seq ?_
  refine W_region ?_
  refine L (D_v (R_move rfl) ?_)
  refine L (D_v (R_len Try.underlying46 rfl (h.ext hE).1) ?_)
  refine L (D_v (R_move rfl) ?_)
  refine L (D_v (R_len Try.underlying46 rfl (hy.ext hE).1) ?_)
  refine L (D_v (R_neqI rfl rfl) ?_)
  refine S_nil ?_
  refine T_tn ?_
  refine W_if rfl (fun c1 => ?_) (fun c1 => ?_)
  ·
    have hne : xs.length ≠ ys.length := by simp at c1; omega
    refine wp_seq ?_
    refine W_region ?_
    refine L (D_v (R_assign rfl) ?_)
    refine S_nil ?_
    refine T_tn ?_
    refine wp_ret ?_
    refine T_tr ?_
    refine ret1 (v := .bool _) rfl rfl ⟨?_, hE⟩
    rw [listS_len hne]
  ·
    have hln : xs.length = ys.length := by simp at c1; omega
    refine wp_skip ?_
    refine T_tn ?_
    refine wp_seq ?_
    refine wp_seq ?_
    refine W_region ?_
    refine L (D_v (R_assign rfl) ?_)
    refine S_nil ?_
    refine T_tn ?_
    refine wp_block ?_
    refine W_loop (fun mz g W => ∃ (i : Nat), mz = xs.length - i ∧ g 0 = v ∧ g 1 = u ∧ g 5 = i64 ((i : Nat) : Int) ∧ Ext w W ∧ i ≤ xs.length ∧ (xs.take i).map Sg.p = (ys.take i).map Sg.p) ⟨0, rfl, rfl, rfl, rfl, hE, (Nat.zero_le _), (by simp)⟩ ?_
    rintro mz f4 w4l ⟨i, hm, q0, q1, q5, hE, hi, hall⟩
    refine wp_seq ?_
    refine wp_seq ?_
    refine W_region ?_
    refine L (D_v (R_move q5) ?_)
    refine L (D_v (R_move q0) ?_)
    refine L (D_v (R_len Try.underlying46 rfl (h.ext hE).1) ?_)
    refine L (D_v (R_lssI rfl rfl) ?_)
    refine S_nil ?_
    refine T_tn ?_
    refine W_if rfl (fun c2 => ?_) (fun c2 => ?_)
    ·
      have lk : i < xs.length := by simp at c2; omega
      have lk2 : i < ys.length := by omega
      refine wp_skip ?_
      refine T_tn ?_
      refine wp_seq ?_
      refine wp_block ?_
      refine wp_seq ?_
      refine W_draw mixed (by kernel_rfl) ?_
      refine Q_v (fun w hw => R_move q0) ?_
      refine Q_v (fun w hw => R_move q5) ?_
      refine Q_v (fun w hw => R_elAddr (i := i) Try.underlying46 Try.sizeOf53 rfl rfl (h.ext (hE.trans hw)).1 (by (try simp only [List.length_take, List.length_drop, List.length_append, List.length_cons, List.length_nil, List.length_replicate, List.length_set, Nm.b_len, be2_len]); omega)) ?_
      refine Q_v (fun w hw => R_ldL (C := cS) (i := i) (y := ((xs).getD (i) Sg.zero)) Try.isAgg53 Try.sizeOf53 rfl (h.ext (hE.trans hw)) (getD_some (d := Sg.zero) (by (try simp only [List.length_take, List.length_drop, List.length_append, List.length_cons, List.length_nil, List.length_replicate, List.length_set, Nm.b_len, be2_len]); omega))) ?_
      refine Q_v (fun w hw => R_move q1) ?_
      refine Q_v (fun w hw => R_move q5) ?_
      refine Q_v (fun w hw => R_elAddr (i := i) Try.underlying46 Try.sizeOf53 rfl rfl (hy.ext (hE.trans hw)).1 (by (try simp only [List.length_take, List.length_drop, List.length_append, List.length_cons, List.length_nil, List.length_replicate, List.length_set, Nm.b_len, be2_len]); omega)) ?_
      refine Q_v (fun w hw => R_ldL (C := cS) (i := i) (y := ((ys).getD (i) Sg.zero)) Try.isAgg53 Try.sizeOf53 rfl (hy.ext (hE.trans hw)) (getD_some (d := Sg.zero) (by (try simp only [List.length_take, List.length_drop, List.length_append, List.length_cons, List.length_nil, List.length_replicate, List.length_set, Nm.b_len, be2_len]); omega))) ?_
      refine Q_call (fun w hw => R_callF Try.call55 rfl rfl) (fun w hw => c55 (((xs).getD (i) Sg.zero)) (((ys).getD (i) Sg.zero)) _ (((h.get (getD_some (d := Sg.zero) (by (try simp only [List.length_take, List.length_drop, List.length_append, List.length_cons, List.length_nil, List.length_replicate, List.length_set, Nm.b_len, be2_len]); omega))).fb (Fb.ext (hE.trans hw))).up (Nat.le_trans (Nat.le_refl _) (hE.trans hw).size)) (((hy.get (getD_some (d := Sg.zero) (by (try simp only [List.length_take, List.length_drop, List.length_append, List.length_cons, List.length_nil, List.length_replicate, List.length_set, Nm.b_len, be2_len]); omega))).fb (Fb.ext (hE.trans hw))).up (Nat.le_trans (Nat.le_refl _) (hE.trans hw).size))) ?_
      refine Q_v (fun w hw => R_not rfl) ?_
      refine Q_nil (fun w6_99 e6_99 => ?_)
      replace hE := hE.trans e6_99
      refine T_tn ?_
      refine W_if rfl (fun c3 => ?_) (fun c3 => ?_)
      ·
        have hsm : sameS (xs.getD i Sg.zero).p (ys.getD i Sg.zero).p = false := by simpa using c3
        refine wp_seq ?_
        refine W_region ?_
        refine L (D_v (R_assign rfl) ?_)
        refine S_nil ?_
        refine T_tn ?_
        refine wp_ret ?_
        refine T_br ?_
        refine T_tr ?_
        refine T_tr ?_
        refine T_br ?_
        refine T_tr ?_
        refine ret1 (v := .bool _) rfl rfl ⟨?_, hE⟩
        rw [listS_at lk lk2 hsm]
      ·
        have hsm : sameS (xs.getD i Sg.zero).p (ys.getD i Sg.zero).p = true := by simpa using c3
        refine wp_skip ?_
        refine T_bn ?_
        refine T_tn ?_
        refine W_region ?_
        refine L (D_v (R_move q5) ?_)
        refine L (D_v (R_addN (m := i) (j := 1) rfl rfl (by (try simp only [List.length_take, List.length_drop, List.length_append, List.length_cons, List.length_nil, List.length_replicate, List.length_set, Nm.b_len, be2_len]); omega)) ?_)
        refine L (D_v (R_assign rfl) ?_)
        refine S_nil ?_
        refine T_tn ?_
        refine ⟨_, _, ?_, rfl, i + 1, rfl, q0, q1, rfl, hE, ?_, ?_⟩
        all_goals first | omega | exact listS_next hall lk lk2 hsm
    ·
      obtain rfl : i = xs.length := by have h9 := of_decide_eq_false c2; omega
      refine wp_exit ?_
      refine T_te ?_
      refine T_te ?_
      refine T_be ?_
      refine T_tn ?_
      refine wp_seq ?_
      refine W_region ?_
      refine L (D_v (R_assign rfl) ?_)
      refine S_nil ?_
      refine T_tn ?_
      refine wp_ret ?_
      refine ret1 (v := .bool _) rfl rfl ⟨?_, hE⟩
      rw [listS_all hln hall]
end Go.Proofs.Yteeopgpgbdhmhaa
namespace Go.Proofs.Yteeopgpgbdhmhaa
open Go.ChangeShapes Go.WideShapes Go.ChangeAt Go.RowKit
set_option maxRecDepth 20000
set_option linter.constructorNameAsVariable false
set_option linter.unusedVariables false
variable {H : Type} {enc : TypeId × Value → H} {w : World} {base : Nat} {sp : Nat → Bool} {held : Bool}
theorem bytesZ5 : Try.prog.bytesOf 5 = 1 := by kernel_rfl
theorem weightsAll_mem {P : Program} {e : TypeId} : ∀ {l : List (DataW H)} {d : DataW H} {n : Nat}, d ∈ l → n ∈ d.weights P e → n ∈ DataW.weightsAll P e l
  | [], _, _, h, _ => by simp at h
  | x :: l, d, n, h, hn => by
    rw [DataW.weightsAll]
    rcases List.mem_cons.1 h with rfl | h
    · exact List.mem_append_left _ hn
    · exact List.mem_append_right _ (weightsAll_mem h hn)
theorem openLz {α : Type} {C : Cd α} {T : TypeId} {Q : α → Prop} (hT : Try.prog.underlying T = some (.slice C.e)) (hc : Try.prog.cellsOf C.e = C.sz)
    (rd : ∀ (fuel : Nat) (cs : List Value) (x : DataW H × List MemPlace), DataW.trod enc Try.prog w base sp held fuel C.e cs = some x → (∀ n ∈ x.1.weights Try.prog C.e, n ≤ reachBytes) → ∃ a, cs = C.l a ∧ Q a)
    {v : Value} {d : DataW H} {p : List MemPlace} {b0 : Nat} {r : Reach} (hv : Value.okWide Try.prog w r b0 T v) (h : DataW.Trod enc Try.prog w base sp held T v d p) (hw : ∀ n ∈ d.weights Try.prog T, n ≤ reachBytes) : ∃ xs : List α, Rs w v xs.length C.sz (C.cs xs) ∧ ∀ x ∈ xs, Q x := by
  obtain ⟨A, len, cap, rfl⟩ := okWide_slice hT hv
  obtain ⟨fuel, hf⟩ := h
  have hpos := C.pos
  rcases DataW.trod_slice hT hf with ⟨hcs, _⟩ | ⟨a, l, c, elems, rest, n, _, hcs, hx, hb, hl, hm, hlen, hel, _, _⟩
  · simp [Value.cells] at hcs
    obtain ⟨rfl, rfl, rfl⟩ := hcs
    exact ⟨[], ⟨by simp [Cd.cs], none, 0, rfl, Nat.le_refl _, by omega, fun _ => rfl, by intro j u hu; simp [Cd.cs] at hu⟩, by simp⟩
  · simp [Value.cells] at hcs
    obtain ⟨rfl, rfl, rfl⟩ := hcs
    cases hx
    have each : ∀ i, i < len → ∃ e : α, w.cells? base (a.add (i * C.sz)) C.sz = some (C.l e) ∧ Q e := by
      intro i hi
      have h1 := hel i hi
      have hie : i < elems.length := by omega
      rw [hc, List.getElem?_eq_getElem hie, Option.bind_eq_some_iff] at h1
      obtain ⟨cs', hcs, hy⟩ := h1
      obtain ⟨e, rfl, ho⟩ := rd _ _ _ hy (fun m hm2 => hw m (by
        simp only [DataW.weights, hT]
        exact List.mem_cons_of_mem _ (List.mem_append_left _ (weightsAll_mem (List.mem_map.2 ⟨_, List.getElem_mem hie, rfl⟩) hm2))))
      exact ⟨e, hcs, ho⟩
    obtain ⟨es, hn, hes⟩ := choice_list each
    have hm' : maxLen = 9223372036854775807 := rfl
    refine ⟨es, ⟨cs_len es, some a, cap, by rw [hn], by omega, by omega, (by intro e; cases e), ?_⟩, ?_⟩
    · intro j u hu
      have hj : j < es.length * C.sz := by rw [← cs_len]; exact (List.getElem?_eq_some_iff.1 hu).1
      have hi : j / C.sz < es.length := by rw [Nat.div_lt_iff_lt_mul hpos]; exact hj
      have hmod : j % C.sz < C.sz := Nat.mod_lt _ hpos
      have hdm : j / C.sz * C.sz + j % C.sz = j := by rw [Nat.mul_comm]; exact Nat.div_add_mod j C.sz
      obtain ⟨h1, _⟩ := hes (j / C.sz) _ (List.getElem?_eq_getElem hi)
      have h2 := cs_at (C := C) (List.getElem?_eq_getElem hi) (j % C.sz) hmod
      rw [hdm, hu] at h2
      refine ⟨a, rfl, ?_⟩
      have h3 := (World.cells?_some h1).2.2 (j % C.sz) hmod
      rw [add_add', hdm] at h3
      rw [h3]; exact h2.symm
    · intro e he
      obtain ⟨i, hi⟩ := List.getElem?_of_mem he
      exact (hes i e hi).2
theorem rd31z {fuel : Nat} {cs : List Value} {x : DataW H × List MemPlace} (h : DataW.trod enc Try.prog w base sp held fuel 31 cs = some x) (hw : ∀ n ∈ x.1.weights Try.prog 31, n ≤ reachBytes) :
    ∃ A n c b, cs = [.slice A n c] ∧ Bs w (.slice A n c) b ∧ b.length ≤ reachBytes := by
  obtain ⟨A, n, c, b, hcs, hb⟩ := rd31 h
  refine ⟨A, n, c, b, hcs, hb, ?_⟩
  obtain ⟨hl, A', c', e, h1, h2, h3, h4⟩ := hb
  rcases DataW.trod_slice Try.underlying31 h with ⟨hcs2, _⟩ | ⟨a, len, cap, elems, rest, m, _, hcs2, hx, _, _, _, he, _⟩
  · rw [hcs] at hcs2
    injection hcs2 with e1
    injection e with e2 e3 e4
    injection e1 with e5 e6 e7
    have : b.length = 0 := by omega
    rw [this]; exact Nat.zero_le _
  · rw [hcs] at hcs2
    injection hcs2 with e1
    injection e with e2 e3 e4
    injection e1 with e5 e6 e7
    have hz := hw ((elems.length + rest.length) * Try.prog.bytesOf 5) (by
      rw [hx]
      simp only [DataW.weights, Try.underlying31, List.length_map]
      exact List.mem_cons_self ..)
    rw [bytesZ5] at hz
    omega
theorem rd53z {fuel : Nat} {cs : List Value} {x : DataW H × List MemPlace} (h : DataW.trod enc Try.prog w base sp held fuel 53 cs = some x) (hw : ∀ n ∈ x.1.weights Try.prog 53, n ≤ reachBytes) :
    ∃ s : Sg, cs = s.l ∧ s.ok w ∧ s.vote.wf ∧ s.sig.length ≤ reachBytes := by
  obtain ⟨xs, m, rfl, _, hlen, hxs, hi⟩ := DataW.trod_struct Try.underlying53 h
  rw [cells53] at hlen
  have hx : ∀ i : Nat, i < 2 → xs[i]? = some (xs[i]?.getD x) := fun i h8 => by
    have : i < xs.length := by rw [hxs]; exact h8
    simp [this]
  have g0 : DataW.trod enc Try.prog w base sp held m 26 ((cs.drop 0).take (Try.prog.cellsOf 26)) = xs[0]? := hi 0 _ rfl
  have g1 : DataW.trod enc Try.prog w base sp held m 31 ((cs.drop 22).take (Try.prog.cellsOf 31)) = xs[1]? := hi 1 _ rfl
  have hw1 : ∀ y, xs[1]? = some y → ∀ n ∈ y.1.weights Try.prog 31, n ≤ reachBytes := by
    intro y hy n hn
    refine hw n ?_
    rename_i hxx
    subst hxx
    simp only [DataW.weights, Try.underlying53]
    exact DataW.weights_mem_each (j := 1) (t := 31) (d := y.1) rfl (by rw [List.getElem?_map, hy]; rfl) n hn
  rw [hx _ (by omega)] at g0 g1
  rw [cells26] at g0
  rw [cells31] at g1
  obtain ⟨v, ev, wv⟩ := rd26 g0
  obtain ⟨A, n, c, b, eb, hb, hbz⟩ := rd31z g1 (hw1 _ (hx 1 (by omega)))
  refine ⟨⟨v, A, n, c, b⟩, ?_, hb, wv, hbz⟩
  have split : cs = (cs.drop 0).take 22 ++ (cs.drop 22).take 1 := by
    rw [List.drop_zero, List.take_of_length_le (show (cs.drop 22).length ≤ 1 by rw [List.length_drop]; omega), List.take_append_drop]
  rw [split, ev, eb]; rfl
variable {v : Value} {d : DataW H} {p : List MemPlace} {b0 : Nat} {r : Reach}
def SsInz (w : World) (v : Value) (ss : List Sg) : Prop := SsIn w v ss ∧ ∀ s ∈ ss, s.sig.length ≤ 140737488355328
theorem open46z (hv : Value.okWide Try.prog w r b0 46 v) (h : DataW.Trod enc Try.prog w base sp held 46 v d p) {ts : List TypeId} {ds : List (DataW H)}
    (hs : (DataW.weightsEach Try.prog ts ds).all (· ≤ reachBytes) = true) {j : Nat} (ht : ts[j]? = some 46) (hd : ds[j]? = some d) : ∃ ss : List Sg, SsInz w v ss := by
  have hw : ∀ n ∈ d.weights Try.prog 46, n ≤ reachBytes := fun n hn => by
    have := List.all_eq_true.1 hs n (DataW.weights_mem_each ht hd n hn)
    simpa using this
  obtain ⟨xs, h1, h2⟩ := openLz (C := cS) (Q := fun s => s.ok w ∧ s.vote.wf ∧ s.sig.length ≤ reachBytes) Try.underlying46 cells53 (fun fuel cs x hx hz => by obtain ⟨a, ha, ho, hw, hz⟩ := rd53z hx hz; exact ⟨a, ha, ho, hw, hz⟩) hv h hw
  exact ⟨xs, ⟨⟨h1, fun x hx => (h2 x hx).1.okf (Ext.refl w) (Nat.le_refl _)⟩, fun x hx => (h2 x hx).2.1⟩, fun x hx => Nat.le_trans (h2 x hx).2.2 (by unfold reachBytes; omega)⟩
end Go.Proofs.Yteeopgpgbdhmhaa
namespace Go.Proofs.Yteeopgpgbdhmhaa
open Go.RowKit Go.Lib
set_option linter.unusedVariables false
theorem ba_list (a : List UInt8) : (ByteArray.mk a.toArray).toList = a := by simp
theorem bl_ltB : ∀ a b : List UInt8, Op.bytesLess a b = ltB a b
  | [], [] => rfl
  | _ :: _, [] => rfl
  | [], _ :: _ => rfl
  | a :: x, b :: y => by
    rw [Bool.eq_iff_iff, ltB_cons]
    unfold Op.bytesLess
    rw [bl_ltB x y]
    simp
theorem sLt_ltB (a b : List UInt8) : sLt a b = ltB a b := by unfold sLt; rw [ba_list, ba_list, bl_ltB]
theorem sLe_ltB (a b : List UInt8) : sLe a b = !ltB b a := by
  unfold sLe
  rw [sLt_ltB, ba_list, ba_list]
  by_cases h : a = b
  · subst h; simp [ltB_irr]
  · rcases ltB_tot a b h with h1 | h1
    · rw [h1, sto_B.asym h1]; simp
    · rw [h1, sto_B.asym h1]; simp [h]
def cut200 (v : Value) (n : Nat) : Value := if 200 < n then cutV v 23 0 200 else v
theorem cut200_p {v : Value} {n : Nat} (h : 200 < n) : cutV v 23 0 200 = cut200 v n := by unfold cut200; rw [if_pos h]
theorem cut200_n {v : Value} {n : Nat} (h : ¬ 200 < n) : v = cut200 v n := by unfold cut200; rw [if_neg h]
theorem cut200_ls {lo : Nat} {w : World} {v : Value} {ss : List Sg} (h : Ls cS lo w v ss) : Ls cS lo w (cut200 v ss.length) (ss.take 200) := by
  unfold cut200
  split
  · have := h.cut (i := 0) (j := 200) (Nat.zero_le _) (by omega)
    rw [List.drop_zero] at this; exact this
  · rw [List.take_of_length_le (by omega)]; exact h
theorem cut200_X {w : World} {v : Value} {xs : List Sg} (hz : SsInz w v xs) : ∃ X, Ls cS w.heap.size w (cut200 v xs.length) X ∧ X.length ≤ 200 ∧ ∀ x ∈ X, x.sig.length ≤ 140737488355328 :=
  ⟨xs.take 200, cut200_ls hz.1.1, by rw [List.length_take]; omega, fun x hx => hz.2 x (List.mem_of_mem_take hx)⟩
theorem ret_b {P : Program} {F : FuncId} {args : Array Value} {w : World} {b c : Bool} (h : Calls P F args w (Ret w (.bool b))) (e : b = c) : Calls P F args w (Ret w (.bool c)) := e ▸ h
end Go.Proofs.Yteeopgpgbdhmhaa
namespace Go.Proofs.Yteeopgpgbdhmhaa
open Go.RowKit Go.Lib
set_option linter.unusedVariables false
theorem condA {m k : Nat} {b : Bool} (h : ((((k : Nat) : Int) == 0) || (decide (((m : Nat) : Int) > 0) && b)) = true) : k = 0 ∨ b = true := by
  rcases Bool.or_eq_true_iff.1 h with h | h
  · have := eq_of_beq h; left; omega
  · exact .inr (Bool.and_eq_true_iff.1 h).2
theorem condA0 {m k : Nat} {b : Bool} (h : ((((k : Nat) : Int) == 0) || (decide (((m : Nat) : Int) > 0) && b)) = false) : 0 < k ∧ (0 < m → b = false) := by
  simp at h; exact ⟨by omega, fun hm => h.2 hm⟩
theorem condB {m : Nat} {b : Bool} (h : ((((m : Nat) : Int) == 0) || b) = true) : m = 0 ∨ b = true := by
  rcases Bool.or_eq_true_iff.1 h with h | h
  · have := eq_of_beq h; left; omega
  · exact .inr h
theorem condB0 {m : Nat} {b : Bool} (h : ((((m : Nat) : Int) == 0) || b) = false) : 0 < m ∧ b = false := by
  simp at h; exact ⟨by omega, h.2⟩
structure Mg (L zs ya yb : List Pv) : Prop where
  up : asc (zs ++ ya)
  up2 : asc (zs ++ yb)
  sub : ∀ y, y ∈ zs ∨ y ∈ ya ∨ y ∈ yb → y ∈ L
  cov : ∀ x ∈ L, ∃ y, (y ∈ zs ∨ y ∈ ya ∨ y ∈ yb) ∧ y.1 = x.1 ∧ ltB x.2 y.2 = false
theorem Mg.start {A B : List Pv} (ha : asc A) (hb : asc B) : Mg (A ++ B) [] A B :=
  ⟨ha, hb, fun y h => h.elim (fun h => absurd h (by simp)) (fun h => h.elim (List.mem_append_left _) (List.mem_append_right _)), fun x hx => ⟨x, (List.mem_append.1 hx).elim (fun h => .inr (.inl h)) (fun h => .inr (.inr h)), rfl, ltB_irr _⟩⟩
theorem Mg.swap {L zs ya yb : List Pv} (h : Mg L zs ya yb) : Mg L zs yb ya :=
  ⟨h.up2, h.up, fun y k => h.sub y (k.elim .inl fun k => .inr k.symm), fun x hx => by
    obtain ⟨y, k, e⟩ := h.cov x hx
    exact ⟨y, k.elim .inl (fun k => .inr k.symm), e⟩⟩
theorem Mg.take {L zs ya yb : List Pv} {a : Pv} (h : Mg L zs (a :: ya) yb) (hc : yb = [] ∨ ∃ b t, yb = b :: t ∧ lessV a.1 b.1 = true) : Mg L (zs ++ [a]) ya yb := by
  have hu := List.pairwise_append.1 h.up
  refine ⟨?_, ?_, ?_, ?_⟩
  · have := h.up
    rw [List.append_assoc]; exact this
  · rw [List.append_assoc]
    have hb := List.pairwise_append.1 h.up2
    refine List.pairwise_append.2 ⟨hu.1, List.pairwise_cons.2 ⟨fun y hy => ?_, hb.2.1⟩, fun x hx y hy => ?_⟩
    · rcases hc with rfl | ⟨b, t, rfl, hl⟩
      · simp at hy
      · rcases List.mem_cons.1 hy with rfl | hy
        · exact hl
        · exact less_trans hl ((List.pairwise_cons.1 hb.2.1).1 y hy)
    · rcases List.mem_cons.1 hy with rfl | hy
      · exact hu.2.2 x hx y (List.mem_cons_self ..)
      · exact hb.2.2 x hx y hy
  · intro y hy
    refine h.sub y ?_
    rcases hy with hy | hy | hy
    · rcases List.mem_append.1 hy with hy | hy
      · exact .inl hy
      · rw [List.mem_singleton] at hy; subst hy; exact .inr (.inl (List.mem_cons_self ..))
    · exact .inr (.inl (List.mem_cons_of_mem _ hy))
    · exact .inr (.inr hy)
  · intro x hx
    obtain ⟨y, hy, e⟩ := h.cov x hx
    refine ⟨y, ?_, e⟩
    rcases hy with hy | hy | hy
    · exact .inl (List.mem_append_left _ hy)
    · rcases List.mem_cons.1 hy with rfl | hy
      · exact .inl (List.mem_append_right _ (List.mem_singleton_self _))
      · exact .inr (.inl hy)
    · exact .inr (.inr hy)
theorem Mg.drop {L zs ya yb : List Pv} {a b : Pv} (h : Mg L zs (a :: ya) (b :: yb)) (he : a.1 = b.1) (hl : ltB a.2 b.2 = false) : Mg L zs ya (b :: yb) := by
  refine ⟨?_, h.up2, ?_, ?_⟩
  · have hu := List.pairwise_append.1 h.up
    exact List.pairwise_append.2 ⟨hu.1, (List.pairwise_cons.1 hu.2.1).2, fun x hx y hy => hu.2.2 x hx y (List.mem_cons_of_mem _ hy)⟩
  · intro y hy
    refine h.sub y ?_
    rcases hy with hy | hy | hy
    · exact .inl hy
    · exact .inr (.inl (List.mem_cons_of_mem _ hy))
    · exact .inr (.inr hy)
  · intro x hx
    obtain ⟨y, hy, e1, e2⟩ := h.cov x hx
    rcases hy with hy | hy | hy
    · exact ⟨y, .inl hy, e1, e2⟩
    · rcases List.mem_cons.1 hy with rfl | hy
      · exact ⟨b, .inr (.inr (List.mem_cons_self ..)), he.symm.trans e1, sto_B.ord.trans _ _ _ hl e2⟩
      · exact ⟨y, .inr (.inl hy), e1, e2⟩
    · exact ⟨y, .inr (.inr hy), e1, e2⟩
theorem Mg.fin {L zs : List Pv} (h : Mg L zs [] []) : IsCan L zs := by
  refine ⟨by have := h.up; rw [List.append_nil] at this; exact this, fun y hy => h.sub y (.inl hy), fun x hx => ?_⟩
  obtain ⟨y, hy, e⟩ := h.cov x hx
  rcases hy with hy | hy | hy
  · exact ⟨y, hy, e⟩
  · simp at hy
  · simp at hy
theorem IsCan.both {X Y A B zs : List Pv} (ha : IsCan X A) (hb : IsCan Y B) (h : IsCan (A ++ B) zs) : IsCan (X ++ Y) zs := by
  refine ⟨h.up, fun y hy => ?_, fun x hx => ?_⟩
  · rcases List.mem_append.1 (h.sub y hy) with k | k
    · exact List.mem_append_left _ (ha.sub y k)
    · exact List.mem_append_right _ (hb.sub y k)
  · rcases List.mem_append.1 hx with k | k
    · obtain ⟨y, hy, e1, e2⟩ := ha.all x k
      obtain ⟨z, hz, e3, e4⟩ := h.all y (List.mem_append_left _ hy)
      exact ⟨z, hz, e3.trans e1, sto_B.ord.trans _ _ _ e4 e2⟩
    · obtain ⟨y, hy, e1, e2⟩ := hb.all x k
      obtain ⟨z, hz, e3, e4⟩ := h.all y (List.mem_append_right _ hy)
      exact ⟨z, hz, e3.trans e1, sto_B.ord.trans _ _ _ e4 e2⟩
theorem uncons {α : Type} {xs : List α} {z : α} (h : 0 < xs.length) : xs = xs.getD 0 z :: ((xs.drop 1).take (xs.length - 1)) := by
  cases xs with
  | nil => simp at h
  | cons a t => simp
def Ms (L zs ya yb : List Sg) : Prop := Mg (L.map Sg.p) (zs.map Sg.p) (ya.map Sg.p) (yb.map Sg.p)
theorem Ms.start {A B : List Sg} {X Y : List Pv} (ha : IsCan X (A.map Sg.p)) (hb : IsCan Y (B.map Sg.p)) : Ms (A ++ B) [] A B := by
  unfold Ms
  rw [List.map_append]; exact Mg.start ha.up hb.up
theorem Ms.takeA {L zs ya yb : List Sg} (h : Ms L zs ya yb) (la : 0 < ya.length) (hc : yb.length = 0 ∨ lessV (ya.getD 0 Sg.zero).vote (yb.getD 0 Sg.zero).vote = true) : Ms L (zs ++ [ya.getD 0 Sg.zero]) ((ya.drop 1).take (ya.length - 1)) yb := by
  unfold Ms at *
  rw [uncons (z := Sg.zero) la, List.map_cons] at h
  rw [List.map_append]
  refine h.take ?_
  rcases Nat.eq_zero_or_pos yb.length with h0 | h0
  · left; rw [List.length_eq_zero_iff.1 h0]; rfl
  · right
    have hlt := hc.resolve_left (by omega)
    exact ⟨(yb.getD 0 Sg.zero).p, ((yb.drop 1).take (yb.length - 1)).map Sg.p, by rw [← List.map_cons, ← uncons h0], hlt⟩
theorem Ms.takeB {L zs ya yb : List Sg} (h : Ms L zs ya yb) (lb : 0 < yb.length) (hc : ya.length = 0 ∨ lessV (yb.getD 0 Sg.zero).vote (ya.getD 0 Sg.zero).vote = true) : Ms L (zs ++ [yb.getD 0 Sg.zero]) ya ((yb.drop 1).take (yb.length - 1)) :=
  (Ms.takeA (show Ms L zs yb ya from Mg.swap h) lb hc |> fun k => show Ms _ _ _ _ from Mg.swap k)
theorem Ms.dropA {L zs ya yb : List Sg} (h : Ms L zs ya yb) (la : 0 < ya.length) (lb : 0 < yb.length) (he : (ya.getD 0 Sg.zero).vote = (yb.getD 0 Sg.zero).vote) (hl : ltB (ya.getD 0 Sg.zero).sig (yb.getD 0 Sg.zero).sig = false) : Ms L zs ((ya.drop 1).take (ya.length - 1)) yb := by
  unfold Ms at *
  rw [uncons (z := Sg.zero) la, List.map_cons] at h
  rw [uncons (z := Sg.zero) lb, List.map_cons] at h ⊢
  exact h.drop he hl
theorem Ms.dropB {L zs ya yb : List Sg} (h : Ms L zs ya yb) (la : 0 < ya.length) (lb : 0 < yb.length) (he : (ya.getD 0 Sg.zero).vote = (yb.getD 0 Sg.zero).vote) (hl : ltB (yb.getD 0 Sg.zero).sig (ya.getD 0 Sg.zero).sig = false) : Ms L zs ya ((yb.drop 1).take (yb.length - 1)) :=
  show Ms _ _ _ _ from Mg.swap (Ms.dropA (show Ms L zs yb ya from Mg.swap h) lb la he.symm hl)
theorem Ms.fin {L zs ya yb : List Sg} (h : Ms L zs ya yb) (la : ya.length = 0) (lb : yb.length = 0) : IsCan (L.map Sg.p) (zs.map Sg.p) := by
  unfold Ms at h
  rw [List.length_eq_zero_iff.1 la, List.length_eq_zero_iff.1 lb] at h
  exact h.fin
theorem vote_eq {a b : Vt} (h1 : lessV a b = false) (h2 : lessV b a = false) : a = b := by
  by_cases e : a = b
  · exact e
  · rcases less_total e with h | h
    · rw [h] at h1; cases h1
    · rw [h] at h2; cases h2
theorem sle_y {a b : List UInt8} (h : sLe a b = true) : ltB b a = false := by rw [sLe_ltB] at h; simpa using h
theorem sle_n {a b : List UInt8} (h : sLe a b = false) : ltB a b = false := by rw [sLe_ltB] at h; exact sto_B.asym (by simpa using h)
theorem halves {xs A B zs : List Sg} {n : Nat} (ha : IsCan ((((xs.drop 0).take (n - 0))).map Sg.p) (A.map Sg.p)) (hb : IsCan ((((xs.drop n).take (xs.length - n))).map Sg.p) (B.map Sg.p)) (h : IsCan ((A ++ B).map Sg.p) (zs.map Sg.p)) : IsCan (xs.map Sg.p) (zs.map Sg.p) := by
  rw [List.map_append] at h
  have := IsCan.both ha hb h
  rw [← List.map_append, List.drop_zero, Nat.sub_zero, List.take_of_length_le (show (xs.drop n).length ≤ xs.length - n by rw [List.length_drop]; exact Nat.le_refl _), List.take_append_drop] at this
  exact this
/-- told ascending by its neighbours -/
theorem asc_of {ys : List Vt} (h : ∀ j : Nat, j + 1 < ys.length → lessV (ys.getD j Vt.zero) (ys.getD (j + 1) Vt.zero) = true) : ys.Pairwise fun a b => lessV a b = true := by
  have gen : ∀ j k : Nat, j < k → k < ys.length → lessV (ys.getD j Vt.zero) (ys.getD k Vt.zero) = true := by
    intro j k hjk
    induction hjk with
    | refl => exact fun hk => h j hk
    | step hm ih => exact fun hk => less_trans (ih (by omega)) (h _ hk)
  rw [List.pairwise_iff_getElem]
  intro i j hi hj hij
  have := gen i j hij hj
  simpa [List.getD, hi, hj] using this
theorem ascS_of {ys : List Sg} (h : ∀ j : Nat, j + 1 < ys.length → lessV (ys.getD j Sg.zero).vote (ys.getD (j + 1) Sg.zero).vote = true) : asc (ys.map Sg.p) := by
  have hv : ∀ j, j < ys.length → (ys.map Sg.vote).getD j Vt.zero = (ys.getD j Sg.zero).vote := fun j hj => by
    rw [List.getD_eq_getElem?_getD, List.getElem?_map, getD_some (d := Sg.zero) hj]; rfl
  have := asc_of (ys := ys.map Sg.vote) (fun j hj => by
    rw [List.length_map] at hj
    rw [hv _ (by omega), hv _ hj]; exact h j hj)
  unfold asc
  rw [List.pairwise_map] at this ⊢
  exact this
theorem can_of_asc {xs ys : List Sg} (h : ys.map Sg.p = xs.map Sg.p) (ha : ∀ j : Nat, j + 1 < xs.length → lessV (xs.getD j Sg.zero).vote (xs.getD (j + 1) Sg.zero).vote = true) : IsCan (xs.map Sg.p) (ys.map Sg.p) := by
  rw [h]; exact IsCan.self (ascS_of ha)
theorem copy_next {xs ys : List Sg} {i : Nat} {y : Sg} (h : ys.map Sg.p = (xs.take i).map Sg.p) (hi : i < xs.length) (hy : y.p = (xs.getD i Sg.zero).p) : (ys ++ [y]).map Sg.p = (xs.take (i + 1)).map Sg.p := by
  rw [List.map_append, h, List.take_add_one, List.map_append, getD_some (d := Sg.zero) hi]
  simp [hy]
def ascV (l : List Vt) : Prop := l.Pairwise fun a b => lessV a b = true
structure Mw (L zs ya yb : List Vt) : Prop where
  up : ascV (zs ++ ya)
  up2 : ascV (zs ++ yb)
  mem : ∀ x, x ∈ L ↔ x ∈ zs ∨ x ∈ ya ∨ x ∈ yb
theorem Mw.start {A B : List Vt} (ha : ascV A) (hb : ascV B) : Mw (A ++ B) [] A B := ⟨ha, hb, fun x => by simp⟩
theorem Mw.swap {L zs ya yb : List Vt} (h : Mw L zs ya yb) : Mw L zs yb ya := ⟨h.up2, h.up, fun x => by rw [h.mem]; constructor <;> (rintro (k | k | k) <;> simp [k])⟩
theorem Mw.takeA {L zs ya yb : List Vt} (h : Mw L zs ya yb) (la : 0 < ya.length) (hc : yb.length = 0 ∨ lessV (ya.getD 0 Vt.zero) (yb.getD 0 Vt.zero) = true) : Mw L (zs ++ [ya.getD 0 Vt.zero]) ((ya.drop 1).take (ya.length - 1)) yb := by
  have e := uncons (z := Vt.zero) la
  generalize ya.getD 0 Vt.zero = a at e hc ⊢
  generalize (ya.drop 1).take (ya.length - 1) = t at e ⊢
  subst e
  have hu := List.pairwise_append.1 h.up
  have hb := List.pairwise_append.1 h.up2
  refine ⟨by rw [List.append_assoc]; exact h.up, ?_, fun x => ?_⟩
  · rw [List.append_assoc]
    refine List.pairwise_append.2 ⟨hu.1, List.pairwise_cons.2 ⟨fun y hy => ?_, hb.2.1⟩, fun x hx y hy => ?_⟩
    · cases yb with
      | nil => simp at hy
      | cons b u =>
        have hl : lessV a b = true := hc.resolve_left (by simp)
        rcases List.mem_cons.1 hy with rfl | hy
        · exact hl
        · exact less_trans hl ((List.pairwise_cons.1 hb.2.1).1 y hy)
    · rcases List.mem_cons.1 hy with rfl | hy
      · exact hu.2.2 x hx y (List.mem_cons_self ..)
      · exact hb.2.2 x hx y hy
  · rw [h.mem, List.mem_append, List.mem_cons, List.mem_singleton]
    constructor
    · rintro (k | (k | k) | k) <;> simp [k]
    · rintro ((k | k) | k | k) <;> simp [k]
theorem Mw.takeB {L zs ya yb : List Vt} (h : Mw L zs ya yb) (lb : 0 < yb.length) (hc : ya.length = 0 ∨ lessV (yb.getD 0 Vt.zero) (ya.getD 0 Vt.zero) = true) : Mw L (zs ++ [yb.getD 0 Vt.zero]) ya ((yb.drop 1).take (yb.length - 1)) := (h.swap.takeA lb hc).swap
theorem Mw.dropA {L zs ya yb : List Vt} (h : Mw L zs ya yb) (la : 0 < ya.length) (lb : 0 < yb.length) (he : ya.getD 0 Vt.zero = yb.getD 0 Vt.zero) : Mw L zs ((ya.drop 1).take (ya.length - 1)) yb := by
  have e := uncons (z := Vt.zero) la
  have hm : yb.getD 0 Vt.zero ∈ yb := List.mem_of_getElem? (getD_some lb)
  rw [← he] at hm
  generalize ya.getD 0 Vt.zero = a at e hm
  generalize (ya.drop 1).take (ya.length - 1) = t at e ⊢
  subst e
  have hu := List.pairwise_append.1 h.up
  refine ⟨List.pairwise_append.2 ⟨hu.1, (List.pairwise_cons.1 hu.2.1).2, fun x hx y hy => hu.2.2 x hx y (List.mem_cons_of_mem _ hy)⟩, h.up2, fun x => ?_⟩
  rw [h.mem, List.mem_cons]
  constructor
  · rintro (k | (k | k) | k)
    · simp [k]
    · subst k; simp [hm]
    · simp [k]
    · simp [k]
  · rintro (k | k | k) <;> simp [k]
theorem Mw.fin {L zs ya yb : List Vt} (h : Mw L zs ya yb) (la : ya.length = 0) (lb : yb.length = 0) : ascV zs ∧ ∀ x, x ∈ zs ↔ x ∈ L := by
  rw [List.length_eq_zero_iff.1 la, List.length_eq_zero_iff.1 lb] at h
  refine ⟨by have := h.up; rw [List.append_nil] at this; exact this, fun x => ?_⟩
  rw [h.mem]; simp
theorem halvesV {xs A B zs : List Vt} {n : Nat} (ha : ∀ x, x ∈ A ↔ x ∈ ((xs.drop 0).take (n - 0))) (hb : ∀ x, x ∈ B ↔ x ∈ ((xs.drop n).take (xs.length - n))) (h : ∀ x, x ∈ zs ↔ x ∈ A ++ B) : ∀ x, x ∈ zs ↔ x ∈ xs := by
  intro x
  rw [h, List.mem_append, ha, hb, List.drop_zero, Nat.sub_zero, List.take_of_length_le (show (xs.drop n).length ≤ xs.length - n by rw [List.length_drop]; exact Nat.le_refl _), ← List.mem_append, List.take_append_drop]
theorem ascV_eq : ∀ ys zs : List Vt, ascV ys → ascV zs → (∀ y, y ∈ ys ↔ y ∈ zs) → ys = zs
  | [], [], _, _, _ => rfl
  | [], z :: zs, _, _, h => absurd ((h z).2 (List.mem_cons_self ..)) (by simp)
  | y :: ys, [], _, _, h => absurd ((h y).1 (List.mem_cons_self ..)) (by simp)
  | y :: ys, z :: zs, hy, hz, h => by
    have hy' := List.pairwise_cons.1 hy
    have hz' := List.pairwise_cons.1 hz
    have e : y = z := by
      rcases List.mem_cons.1 ((h y).1 (List.mem_cons_self ..)) with h1 | h1
      · exact h1
      · rcases List.mem_cons.1 ((h z).2 (List.mem_cons_self ..)) with h2 | h2
        · exact h2.symm
        · have := less_trans (hz'.1 y h1) (hy'.1 z h2)
          rw [less_irr] at this; cases this
    subst e
    have ny : ∀ (l : List Vt), (∀ a ∈ l, lessV y a = true) → y ∉ l := fun l hl hm => by have := hl y hm; rw [less_irr] at this; cases this
    congr 1
    refine ascV_eq ys zs hy'.2 hz'.2 fun a => ⟨fun ha => ?_, fun ha => ?_⟩
    · rcases List.mem_cons.1 ((h a).1 (List.mem_cons_of_mem _ ha)) with h1 | h1
      · subst h1; exact absurd ha (ny ys hy'.1)
      · exact h1
    · rcases List.mem_cons.1 ((h a).2 (List.mem_cons_of_mem _ ha)) with h1 | h1
      · subst h1; exact absurd ha (ny zs hz'.1)
      · exact h1
theorem can_votes {X y : List Sg} (h : IsCan (X.map Sg.p) (y.map Sg.p)) : ascV (y.map Sg.vote) ∧ ∀ v, v ∈ y.map Sg.vote ↔ v ∈ X.map Sg.vote := by
  have hu := h.up
  unfold asc at hu
  rw [List.pairwise_map] at hu
  refine ⟨by unfold ascV; rw [List.pairwise_map]; exact hu, fun v => ⟨fun hv => ?_, fun hv => ?_⟩⟩
  · obtain ⟨s, hs, rfl⟩ := List.mem_map.1 hv
    obtain ⟨t, ht, e⟩ := List.mem_map.1 (h.sub _ (List.mem_map.2 ⟨s, hs, rfl⟩))
    exact List.mem_map.2 ⟨t, ht, congrArg Prod.fst e⟩
  · obtain ⟨s, hs, rfl⟩ := List.mem_map.1 hv
    obtain ⟨p, hp, e, _⟩ := h.all s.p (List.mem_map.2 ⟨s, hs, rfl⟩)
    obtain ⟨t, ht, rfl⟩ := List.mem_map.1 hp
    exact List.mem_map.2 ⟨t, ht, e⟩
theorem votes_next {ys : List Sg} {vs : List Vt} {i : Nat} (h : vs = (ys.take i).map Sg.vote) (hi : i < ys.length) : vs ++ [(ys.getD i Sg.zero).vote] = (ys.take (i + 1)).map Sg.vote := by
  rw [h, List.take_add_one, List.map_append, getD_some (d := Sg.zero) hi]; rfl
theorem can_uniq2 {X y z : List Sg} (h1 : IsCan (X.map Sg.p) (y.map Sg.p)) (h2 : IsCan (X.map Sg.p) (z.map Sg.p)) : listS y z = true := by
  unfold listS
  exact decide_eq_true (h1.uniq (fun _ => Iff.rfl) h2)
end Go.Proofs.Yteeopgpgbdhmhaa
namespace Go.Proofs.Yteeopgpgbdhmhaa
open Go.RowKit
set_option linter.unusedVariables false
set_option linter.unusedSimpArgs false
attribute [local irreducible] wpList wpO H wpQuiet wpStill Code.wp Exit.then Exit.inBlock bodyPost Code.rounds Calls valid lessV hless num between
set_option maxRecDepth 4000 in
set_option maxHeartbeats 1500000 in
theorem c65ks (F : Nat) (ih : ∀ (lo : Nat) (v : Value) (xs : List Sg) (w : World), xs.length < F → lo ≤ w.heap.size → xs.length ≤ 1000000 → Ls cS lo w v xs → (∀ x ∈ xs, x.sig.length ≤ 140737488355328) → Calls Try.prog 65 [v].toArray w (RetE w fun r w' => ∃ ys, Ow cS lo w.heap.size w' r ys ∧ ys.length ≤ xs.length ∧ IsCan (xs.map Sg.p) (ys.map Sg.p))) (lo : Nat) (v : Value) (xs : List Sg) (w : World) (hF : xs.length < F + 1) (hlo : lo ≤ w.heap.size) (hn : xs.length ≤ 1000000) (h : Ls cS lo w v xs) (hsl : ∀ x ∈ xs, x.sig.length ≤ 140737488355328) : Calls Try.prog 65 [v].toArray w (RetE w fun r w' => ∃ ys, Ow cS lo w.heap.size w' r ys ∧ ys.length ≤ xs.length ∧ IsCan (xs.map Sg.p) (ys.map Sg.p)) := by
  refine enter Try.func65 Try.ntmps65 rfl rfl ?_
  have hE := Ext.refl w
  refine wp_seq ?_
  refine W_region ?_
  refine L (D_v (R_assign rfl) ?_)
  refine S_nil ?_
  refine T_tn ?_
  refine wp_seq ?_
  refine W_region ?_
  refine L (D_v (R_assign rfl) ?_)
  refine S_nil ?_
  refine T_tn ?_
  refine wp_seq ?_
  refine wp_seq ?_
  refine W_region ?_
  refine L (D_v (R_assign rfl) ?_)
  refine S_nil ?_
  refine T_tn ?_
  refine wp_block ?_
  refine W_loop (fun mz g W => ∃ (i : Nat) (B : Bool), mz = xs.length - i ∧ g 0 = v ∧ g 3 = .bool B ∧ g 4 = i64 ((i : Nat) : Int) ∧ Ext w W ∧ (B = true ∨ 2 ≤ xs.length) ∧ i ≤ xs.length ∧ (B = true → ∀ j : Nat, j < i → j + 1 < xs.length → lessV (xs.getD j Sg.zero).vote (xs.getD (j + 1) Sg.zero).vote = true)) ⟨0, true, rfl, rfl, rfl, rfl, hE, (.inl rfl), (Nat.zero_le _), (fun _ j hj => absurd hj (by omega))⟩ ?_
  rintro mz f4 w4l ⟨i, B, hm, q0, q3, q4, hE, hB, hi, hready⟩
  refine wp_seq ?_
  refine wp_seq ?_
  refine W_region ?_
  refine L (D_v (R_move q4) ?_)
  refine L (D_v (R_addN (m := i) (j := 1) rfl rfl (by (try simp only [List.length_take, List.length_drop, List.length_append, List.length_cons, List.length_nil, List.length_replicate, List.length_set, Nm.b_len, be2_len]); omega)) ?_)
  refine L (D_v (R_move q0) ?_)
  refine L (D_v (R_len Try.underlying46 rfl (h.ext hE).1) ?_)
  refine L (D_v (R_lssI rfl rfl) ?_)
  refine L (D_v (R_move rfl) ?_)
  refine L (D_g1 rfl rfl (fun hb => R_move q3) ?_)
  refine L (D_v (R_pickA rfl rfl rfl) ?_)
  refine S_nil ?_
  refine T_tn ?_
  refine W_if rfl (fun c1 => ?_) (fun c1 => ?_)
  ·
    have lk : i + 1 < xs.length := by simp at c1; omega
    have hBt : B = true := by simp at c1; exact c1.2
    refine wp_skip ?_
    refine T_tn ?_
    refine wp_seq ?_
    refine wp_block ?_
    refine W_draw mixed (by kernel_rfl) ?_
    refine Q_v (fun w hw => R_move q0) ?_
    refine Q_v (fun w hw => R_move q4) ?_
    refine Q_v (fun w hw => R_elAddr (i := i) Try.underlying46 Try.sizeOf53 rfl rfl (h.ext (hE.trans hw)).1 (by (try simp only [List.length_take, List.length_drop, List.length_append, List.length_cons, List.length_nil, List.length_replicate, List.length_set, Nm.b_len, be2_len]); omega)) ?_
    refine Q_v (fun w hw => R_fieldEl (k := i * 23) Try.runUnderlying53 rfl Try.sizeOf26 (h.ext (hE.trans hw)).1 (lel_ltz (C := cS) (s := 23) rfl (by decide) (getD_some (d := Sg.zero) (by (try simp only [List.length_take, List.length_drop, List.length_append, List.length_cons, List.length_nil, List.length_replicate, List.length_set, Nm.b_len, be2_len]); omega))) rfl) ?_
    refine Q_v (fun w hw => R_ldP (C := cS) (i := i) (k := 0) (y := ((xs).getD (i) Sg.zero)) (c := ((((xs).getD (i) Sg.zero)).vote).l) Try.isAgg26 Try.sizeOf26 rfl (h.ext (hE.trans hw)) (getD_some (d := Sg.zero) (by (try simp only [List.length_take, List.length_drop, List.length_append, List.length_cons, List.length_nil, List.length_replicate, List.length_set, Nm.b_len, be2_len]); omega)) (by decide) (by decide) rfl) ?_
    refine Q_v (fun w hw => R_move q0) ?_
    refine Q_v (fun w hw => R_move q4) ?_
    refine Q_v (fun w hw => R_addN (m := i) (j := 1) rfl rfl (by (try simp only [List.length_take, List.length_drop, List.length_append, List.length_cons, List.length_nil, List.length_replicate, List.length_set, Nm.b_len, be2_len]); omega)) ?_
    refine Q_v (fun w hw => R_elAddr (i := (i + 1)) Try.underlying46 Try.sizeOf53 rfl rfl (h.ext (hE.trans hw)).1 (by (try simp only [List.length_take, List.length_drop, List.length_append, List.length_cons, List.length_nil, List.length_replicate, List.length_set, Nm.b_len, be2_len]); omega)) ?_
    refine Q_v (fun w hw => R_fieldEl (k := (i + 1) * 23) Try.runUnderlying53 rfl Try.sizeOf26 (h.ext (hE.trans hw)).1 (lel_ltz (C := cS) (s := 23) rfl (by decide) (getD_some (d := Sg.zero) (by (try simp only [List.length_take, List.length_drop, List.length_append, List.length_cons, List.length_nil, List.length_replicate, List.length_set, Nm.b_len, be2_len]); omega))) rfl) ?_
    refine Q_v (fun w hw => R_ldP (C := cS) (i := (i + 1)) (k := 0) (y := ((xs).getD ((i + 1)) Sg.zero)) (c := ((((xs).getD ((i + 1)) Sg.zero)).vote).l) Try.isAgg26 Try.sizeOf26 rfl (h.ext (hE.trans hw)) (getD_some (d := Sg.zero) (by (try simp only [List.length_take, List.length_drop, List.length_append, List.length_cons, List.length_nil, List.length_replicate, List.length_set, Nm.b_len, be2_len]); omega)) (by decide) (by decide) rfl) ?_
    refine Q_call (fun w hw => R_callF Try.call34 rfl rfl) (fun w hw => c34 ((((xs).getD (i) Sg.zero)).vote) ((((xs).getD ((i + 1)) Sg.zero)).vote) _ ) ?_
    refine Q_v (fun w hw => R_assign rfl) ?_
    refine Q_nil (fun w6_99 e6_99 => ?_)
    replace hE := hE.trans e6_99
    refine T_bn ?_
    refine T_tn ?_
    refine W_region ?_
    refine L (D_v (R_move q4) ?_)
    refine L (D_v (R_addN (m := i) (j := 1) rfl rfl (by (try simp only [List.length_take, List.length_drop, List.length_append, List.length_cons, List.length_nil, List.length_replicate, List.length_set, Nm.b_len, be2_len]); omega)) ?_)
    refine L (D_v (R_assign rfl) ?_)
    refine S_nil ?_
    refine T_tn ?_
    refine ⟨_, _, ?_, rfl, i + 1, _, rfl, q0, rfl, rfl, hE, ?_, ?_, ?_⟩
    all_goals first | omega | exact .inr (by omega) | exact fun h8 j hj hj2 => (Nat.lt_succ_iff_lt_or_eq.1 hj).elim (fun h3 => hready hBt j h3 hj2) (fun h3 => by subst h3; exact h8)
  ·
    have hend : B = true → xs.length ≤ i + 1 := by intro h8; rw [h8] at c1; simp at c1; omega
    refine wp_exit ?_
    refine T_te ?_
    refine T_te ?_
    refine T_be ?_
    refine T_tn ?_
    refine wp_seq ?_
    refine wp_seq ?_
    refine W_region ?_
    refine L (D_v (R_move q3) ?_)
    refine S_nil ?_
    refine T_tn ?_
    refine W_if rfl (fun c2 => ?_) (fun c2 => ?_)
    ·
      have hall : ∀ j : Nat, j + 1 < xs.length → lessV (xs.getD j Sg.zero).vote (xs.getD (j + 1) Sg.zero).vote = true := fun j hj => hready c2 j (by have := hend c2; omega) hj
      refine wp_seq ?_
      refine W_region ?_
      refine L (D_v (R_assign rfl) ?_)
      refine S_nil ?_
      refine T_tn ?_
      refine wp_seq ?_
      refine wp_seq ?_
      refine W_region ?_
      refine L (D_v (R_assign rfl) ?_)
      refine S_nil ?_
      refine T_tn ?_
      refine wp_block ?_
      refine W_loop (fun mz g W => ∃ (i : Nat) (ys : List Sg) (r5 : Value), mz = xs.length - i ∧ g 0 = v ∧ g 5 = r5 ∧ g 6 = i64 ((i : Nat) : Int) ∧ Ext w W ∧ Ow cS lo w.heap.size W r5 ys ∧ i ≤ xs.length ∧ ys.length = i ∧ ys.map Sg.p = (xs.take i).map Sg.p) ⟨0, [], _, rfl, q0, rfl, rfl, hE, (Ow.nil cS lo _ _), (Nat.zero_le _), (by simp), (by simp)⟩ ?_
      rintro mz f9 w9l ⟨i, ys, r5, hm, q0, q5, q6, hE, or5, hi, hl, hcp⟩
      refine wp_seq ?_
      refine wp_seq ?_
      refine W_region ?_
      refine L (D_v (R_move q6) ?_)
      refine L (D_v (R_move q0) ?_)
      refine L (D_v (R_len Try.underlying46 rfl (h.ext hE).1) ?_)
      refine L (D_v (R_lssI rfl rfl) ?_)
      refine S_nil ?_
      refine T_tn ?_
      refine W_if rfl (fun c3 => ?_) (fun c3 => ?_)
      ·
        have lk : i < xs.length := by simp at c3; omega
        have hsi := hsl _ (List.getElem_mem (by exact lk))
        have hgd : xs.getD i Sg.zero = xs[i] := by simp [List.getD, lk]
        rw [← hgd] at hsi
        refine wp_skip ?_
        refine T_tn ?_
        refine wp_seq ?_
        refine wp_block ?_
        refine W_held (fun W => Ext w W ∧ True) mixed (fun w11_99 e11_99 => ?_)
        replace hE := hE.trans e11_99
        replace or5 := or5.ext e11_99
        refine H_take (i := 0) rfl (by kernel_rfl) (by kernel_rfl) (by kernel_rfl) rfl (pq_block (pq_then (pq_then (pq_block (pq_then (pq_then pq_body)))))) ⟨hE, trivial⟩ rfl (fun w hw => R_move q5) ?_
        refine H_take (i := 1) rfl (by kernel_rfl) (by kernel_rfl) (by kernel_rfl) rfl (pq_block (pq_then (pq_then (pq_block (pq_then (pq_then pq_body)))))) ⟨hE, trivial⟩ rfl (fun w hw => R_move q0) ?_
        refine H_take (i := 2) rfl (by kernel_rfl) (by kernel_rfl) (by kernel_rfl) rfl (pq_block (pq_then (pq_then (pq_block (pq_then (pq_then pq_body)))))) ⟨hE, trivial⟩ rfl (fun w hw => R_move q6) ?_
        refine H_take (i := 3) rfl (by kernel_rfl) (by kernel_rfl) (by kernel_rfl) rfl (pq_block (pq_then (pq_then (pq_block (pq_then (pq_then pq_body)))))) ⟨hE, trivial⟩ rfl (fun w hw => R_elAddr (i := i) Try.underlying46 Try.sizeOf53 rfl rfl (h.ext hw.1).1 (by (try simp only [List.length_take, List.length_drop, List.length_append, List.length_cons, List.length_nil, List.length_replicate, List.length_set, Nm.b_len, be2_len]); omega)) ?_
        refine H_take (i := 4) rfl (by kernel_rfl) (by kernel_rfl) (by kernel_rfl) rfl (pq_block (pq_then (pq_then (pq_block (pq_then (pq_then pq_body)))))) ⟨hE, trivial⟩ rfl (fun w hw => R_fieldEl (k := i * 23) Try.runUnderlying53 rfl Try.sizeOf26 (h.ext hw.1).1 (lel_ltz (C := cS) (s := 23) rfl (by decide) (getD_some (d := Sg.zero) (by (try simp only [List.length_take, List.length_drop, List.length_append, List.length_cons, List.length_nil, List.length_replicate, List.length_set, Nm.b_len, be2_len]); omega))) rfl) ?_
        refine H_take (i := 5) rfl (by kernel_rfl) (by kernel_rfl) (by kernel_rfl) rfl (pq_block (pq_then (pq_then (pq_block (pq_then (pq_then pq_body)))))) ⟨hE, trivial⟩ rfl (fun w hw => R_ldP (C := cS) (i := i) (k := 0) (y := ((xs).getD (i) Sg.zero)) (c := ((((xs).getD (i) Sg.zero)).vote).l) Try.isAgg26 Try.sizeOf26 rfl (h.ext hw.1) (getD_some (d := Sg.zero) (by (try simp only [List.length_take, List.length_drop, List.length_append, List.length_cons, List.length_nil, List.length_replicate, List.length_set, Nm.b_len, be2_len]); omega)) (by decide) (by decide) rfl) ?_
        refine H_take (i := 6) rfl (by kernel_rfl) (by kernel_rfl) (by kernel_rfl) rfl (pq_block (pq_then (pq_then (pq_block (pq_then (pq_then pq_body)))))) ⟨hE, trivial⟩ rfl (fun w hw => R_move q0) ?_
        refine H_take (i := 7) rfl (by kernel_rfl) (by kernel_rfl) (by kernel_rfl) rfl (pq_block (pq_then (pq_then (pq_block (pq_then (pq_then pq_body)))))) ⟨hE, trivial⟩ rfl (fun w hw => R_move q6) ?_
        refine H_take (i := 8) rfl (by kernel_rfl) (by kernel_rfl) (by kernel_rfl) rfl (pq_block (pq_then (pq_then (pq_block (pq_then (pq_then pq_body)))))) ⟨hE, trivial⟩ rfl (fun w hw => R_elAddr (i := i) Try.underlying46 Try.sizeOf53 rfl rfl (h.ext hw.1).1 (by (try simp only [List.length_take, List.length_drop, List.length_append, List.length_cons, List.length_nil, List.length_replicate, List.length_set, Nm.b_len, be2_len]); omega)) ?_
        refine H_take (i := 9) rfl (by kernel_rfl) (by kernel_rfl) (by kernel_rfl) rfl (pq_block (pq_then (pq_then (pq_block (pq_then (pq_then pq_body)))))) ⟨hE, trivial⟩ rfl (fun w hw => R_fieldEl (k := i * 23) Try.runUnderlying53 rfl Try.sizeOf31 (h.ext hw.1).1 (lel_ltz (C := cS) (s := 23) rfl (by decide) (getD_some (d := Sg.zero) (by (try simp only [List.length_take, List.length_drop, List.length_append, List.length_cons, List.length_nil, List.length_replicate, List.length_set, Nm.b_len, be2_len]); omega))) rfl) ?_
        refine H_take (i := 10) rfl (by kernel_rfl) (by kernel_rfl) (by kernel_rfl) rfl (pq_block (pq_then (pq_then (pq_block (pq_then (pq_then pq_body)))))) ⟨hE, trivial⟩ rfl (fun w hw => R_ldC (C := cS) (i := i) (k := 22) (y := ((xs).getD (i) Sg.zero)) (u := (.slice (((xs).getD (i) Sg.zero)).A (((xs).getD (i) Sg.zero)).n (((xs).getD (i) Sg.zero)).c)) Try.isAgg31 rfl (h.ext hw.1) (getD_some (d := Sg.zero) (by (try simp only [List.length_take, List.length_drop, List.length_append, List.length_cons, List.length_nil, List.length_replicate, List.length_set, Nm.b_len, be2_len]); omega)) (by decide) rfl) ?_
        have o11_11n := OwnB.nil w11_99 w.heap.size
        refine H_op (i := 11) (by kernel_rfl) rfl rfl (D_appendB elt5 Try.underlying31 rfl rfl o11_11n ((h.get (getD_some (d := Sg.zero) (by (try simp only [List.length_take, List.length_drop, List.length_append, List.length_cons, List.length_nil, List.length_replicate, List.length_set, Nm.b_len, be2_len]); omega))).fb (Fb.ext hE)).bs (by (try simp only [List.length_take, List.length_drop, List.length_append, List.length_cons, List.length_nil, List.length_replicate, List.length_set, Nm.b_len, be2_len]); omega) hE.size (fun v11_11 w11_11 o11_11 g11_11 => ?_))
        replace g11_11 := gext g11_11
        replace hE := hE.trans g11_11
        replace or5 := or5.ext g11_11
        refine ⟨⟨hE, trivial⟩, ?_⟩
        have k11_12 : Sg.okf lo w11_11 (mkSg ((((xs).getD (i) Sg.zero)).vote) v11_11 ([] ++ (((xs).getD (i) Sg.zero)).sig)) := mkSg_ok _ (Bf.own o11_11)
        refine H_op (i := 12) (by kernel_rfl) rfl rfl (D_v (R_buildS (vs := [(0, .agg ((((xs).getD (i) Sg.zero)).vote).l.toArray), (1, v11_11)]) (c := (mkSg ((((xs).getD (i) Sg.zero)).vote) v11_11 ([] ++ (((xs).getD (i) Sg.zero)).sig)).l) Try.runUnderlying53 places53 Try.zeroValue53 (mapp2 rfl rfl) (fill53 _ o11_11.bs)) ⟨⟨hE, trivial⟩, ?_⟩)
        refine H_op (i := 13) (by kernel_rfl) rfl rfl (D_buildL1 (C := cS) (lo := lo) (y := (mkSg ((((xs).getD (i) Sg.zero)).vote) v11_11 ([] ++ (((xs).getD (i) Sg.zero)).sig))) Try.underlying46 Try.sizeOf53 Try.zeroValue53 (mapp1 rfl) (by decide) k11_12 (fun v11_13 w11_13 o11_13 e11_13 => ?_))
        have zr5_v11_13 := own_apart or5.1 o11_13.1
        have zv11_13_r5 := fun k hk hk2 => zr5_v11_13 k hk2 hk
        replace o11_13 := o11_13.low hE.size
        replace hE := hE.trans e11_13
        replace or5 := or5.ext e11_13
        replace o11_11 := o11_11.ext e11_13
        replace k11_12 := k11_12.fb (Fb.ext e11_13)
        refine ⟨⟨hE, trivial⟩, ?_⟩
        refine H_op (i := 14) (by kernel_rfl) rfl rfl (D_appendL elt53 Try.underlying46 rfl rfl or5 hlo o11_13.ls (by (try simp only [List.length_take, List.length_drop, List.length_append, List.length_cons, List.length_nil, List.length_replicate, List.length_set, Nm.b_len, be2_len]); omega) (by (try simp only [List.length_take, List.length_drop, List.length_append, List.length_cons, List.length_nil, List.length_replicate, List.length_set, Nm.b_len, be2_len]); omega) hE.size (fun v11_14 w11_14 o11_14 g11_14 f11_14 sv11_14 => ?_))
        have zv11_13_v11_14 : ∀ k, Value.ownBlock v11_13 = some k → Value.ownBlock v11_14 ≠ some k := fun k hk2 hk => (sv11_14 _ hk).elim (fun h => zv11_13_r5 k hk2 h) (fun h => absurd h (Nat.not_le.2 (own_lt o11_13.1 hk2)))
        have zv11_14_v11_13 := fun k hk hk2 => zv11_13_v11_14 k hk2 hk
        replace hE := hE.grown g11_14 (fun k hk => own_ge or5.1 hk)
        replace o11_11 := o11_11.grown g11_14 (own_ne o11_11 or5.1 rfl)
        replace o11_13 := o11_13.grown g11_14 (zv11_13_r5) f11_14
        replace k11_12 := k11_12.fb f11_14
        refine ⟨⟨hE, trivial⟩, ?_⟩
        refine H_take (i := 15) rfl (by kernel_rfl) (by kernel_rfl) (by kernel_rfl) rfl (pq_block (pq_then (pq_then (pq_block (pq_then (pq_then pq_body)))))) ⟨hE, trivial⟩ rfl (fun w hw => R_assign rfl) ?_
        refine H_done (by kernel_rfl) ?_
        refine T_bn ?_
        refine T_tn ?_
        refine W_region ?_
        refine L (D_v (R_move q6) ?_)
        refine L (D_v (R_addN (m := i) (j := 1) rfl rfl (by (try simp only [List.length_take, List.length_drop, List.length_append, List.length_cons, List.length_nil, List.length_replicate, List.length_set, Nm.b_len, be2_len]); omega)) ?_)
        refine L (D_v (R_assign rfl) ?_)
        refine S_nil ?_
        refine T_tn ?_
        refine ⟨_, _, ?_, rfl, i + 1, _, _, rfl, q0, rfl, rfl, hE, o11_14, ?_, ?_, ?_⟩
        all_goals first | omega | (simp only [List.length_append, List.length_cons, List.length_nil]; omega) | exact copy_next hcp lk rfl
      ·
        obtain rfl : i = xs.length := by have h9 := of_decide_eq_false c3; omega
        refine wp_exit ?_
        refine T_te ?_
        refine T_te ?_
        refine T_be ?_
        refine T_tn ?_
        refine wp_seq ?_
        refine W_region ?_
        refine L (D_v (R_move q5) ?_)
        refine L (D_v (R_assign rfl) ?_)
        refine S_nil ?_
        refine T_tn ?_
        refine wp_ret ?_
        refine T_tr ?_
        refine ret1 (v := r5) rfl rfl ⟨_, rfl, hE, ?_⟩
        first | exact ⟨_, or5, by first | omega | (simp only [List.length_append, List.length_nil] at *; omega), can_of_asc (by rw [List.take_of_length_le (Nat.le_refl _)] at hcp; exact hcp) hall⟩ | exact ⟨_, or5, by first | omega | (simp only [List.length_append, List.length_nil] at *; omega), halves _ _ (hM.fin l00.1 l00.2)⟩
    ·
      have h2 : 2 ≤ xs.length := hB.resolve_left (by simp [c2])
      refine wp_skip ?_
      refine T_tn ?_
      refine wp_seq ?_
      refine W_held (fun W => Ext w W ∧ True) mixed (fun w7_99 e7_99 => ?_)
      replace hE := hE.trans e7_99
      refine H_take (i := 0) rfl (by kernel_rfl) (by kernel_rfl) (by kernel_rfl) rfl (pq_then pq_body) ⟨hE, trivial⟩ rfl (fun w hw => R_move q0) ?_
      refine H_take (i := 1) rfl (by kernel_rfl) (by kernel_rfl) (by kernel_rfl) rfl (pq_then pq_body) ⟨hE, trivial⟩ rfl (fun w hw => R_move q0) ?_
      refine H_take (i := 2) rfl (by kernel_rfl) (by kernel_rfl) (by kernel_rfl) rfl (pq_then pq_body) ⟨hE, trivial⟩ rfl (fun w hw => R_len Try.underlying46 rfl (h.ext hw.1).1) ?_
      refine H_take (i := 3) rfl (by kernel_rfl) (by kernel_rfl) (by kernel_rfl) rfl (pq_then pq_body) ⟨hE, trivial⟩ rfl (fun w hw => R_quoN (m := (xs).length) (j := 2) rfl rfl (by decide) (by (try simp only [List.length_take, List.length_drop, List.length_append, List.length_cons, List.length_nil, List.length_replicate, List.length_set, Nm.b_len, be2_len]); omega)) ?_
      refine H_take (i := 4) rfl (by kernel_rfl) (by kernel_rfl) (by kernel_rfl) rfl (pq_then pq_body) ⟨hE, trivial⟩ rfl (fun w hw => R_sliceHi (j := ((xs).length / 2)) Try.underlying46 Try.sizeOf53 rfl rfl (h.ext hw.1).1 (by (try simp only [List.length_take, List.length_drop, List.length_append, List.length_cons, List.length_nil, List.length_replicate, List.length_set, Nm.b_len, be2_len]); omega)) ?_
      refine H_take (i := 6) rfl (by kernel_rfl) (by kernel_rfl) (by kernel_rfl) rfl (pq_then pq_body) ⟨hE, trivial⟩ rfl (fun w hw => R_move q0) ?_
      refine H_take (i := 7) rfl (by kernel_rfl) (by kernel_rfl) (by kernel_rfl) rfl (pq_then pq_body) ⟨hE, trivial⟩ rfl (fun w hw => R_move q0) ?_
      refine H_take (i := 8) rfl (by kernel_rfl) (by kernel_rfl) (by kernel_rfl) rfl (pq_then pq_body) ⟨hE, trivial⟩ rfl (fun w hw => R_len Try.underlying46 rfl (h.ext hw.1).1) ?_
      refine H_take (i := 9) rfl (by kernel_rfl) (by kernel_rfl) (by kernel_rfl) rfl (pq_then pq_body) ⟨hE, trivial⟩ rfl (fun w hw => R_quoN (m := (xs).length) (j := 2) rfl rfl (by decide) (by (try simp only [List.length_take, List.length_drop, List.length_append, List.length_cons, List.length_nil, List.length_replicate, List.length_set, Nm.b_len, be2_len]); omega)) ?_
      refine H_take (i := 10) rfl (by kernel_rfl) (by kernel_rfl) (by kernel_rfl) rfl (pq_then pq_body) ⟨hE, trivial⟩ rfl (fun w hw => R_sliceLo (i := ((xs).length / 2)) Try.underlying46 Try.sizeOf53 rfl rfl (h.ext hw.1).1 (by (try simp only [List.length_take, List.length_drop, List.length_append, List.length_cons, List.length_nil, List.length_replicate, List.length_set, Nm.b_len, be2_len]); omega)) ?_
      refine H_op (i := 5) (by kernel_rfl) rfl rfl (D_callE (R_callF Try.call65 rfl rfl) (ih lo (cutV v (Cd.sz cS) (0) (((xs).length / 2))) ((((xs).drop (0)).take (((xs).length / 2) - 0))) _ (by simp only [List.length_take, List.length_drop]; omega) (Nat.le_trans hlo hE.size) (by simp only [List.length_take, List.length_drop]; omega) ((h.ext hE).cut (by (try simp only [List.length_take, List.length_drop, List.length_append, List.length_cons, List.length_nil, List.length_replicate, List.length_set, Nm.b_len, be2_len]); omega) (by (try simp only [List.length_take, List.length_drop, List.length_append, List.length_cons, List.length_nil, List.length_replicate, List.length_set, Nm.b_len, be2_len]); omega)) (fun x hx => hsl x (List.mem_of_mem_drop (List.mem_of_mem_take hx)))) (fun v7_5 w7_5 e7_5 p7_5 => ?_))
      obtain ⟨y7_5, o7_5, n7_5, cn7_5⟩ := p7_5
      replace o7_5 := o7_5.low hE.size
      replace hE := hE.trans e7_5
      refine ⟨⟨hE, trivial⟩, ?_⟩
      refine H_op (i := 11) (by kernel_rfl) rfl rfl (D_callE (R_callF Try.call65 rfl rfl) (ih lo (cutV v (Cd.sz cS) (((xs).length / 2)) ((xs).length)) ((((xs).drop (((xs).length / 2))).take ((xs).length - ((xs).length / 2)))) _ (by simp only [List.length_take, List.length_drop]; omega) (Nat.le_trans hlo hE.size) (by simp only [List.length_take, List.length_drop]; omega) ((h.ext hE).cut (by (try simp only [List.length_take, List.length_drop, List.length_append, List.length_cons, List.length_nil, List.length_replicate, List.length_set, Nm.b_len, be2_len]); omega) (by (try simp only [List.length_take, List.length_drop, List.length_append, List.length_cons, List.length_nil, List.length_replicate, List.length_set, Nm.b_len, be2_len]); omega)) (fun x hx => hsl x (List.mem_of_mem_drop (List.mem_of_mem_take hx)))) (fun v7_11 w7_11 e7_11 p7_11 => ?_))
      obtain ⟨y7_11, o7_11, n7_11, cn7_11⟩ := p7_11
      have zv7_5_v7_11 := own_apart o7_5.1 o7_11.1
      have zv7_11_v7_5 := fun k hk hk2 => zv7_5_v7_11 k hk2 hk
      replace o7_11 := o7_11.low hE.size
      replace hE := hE.trans e7_11
      replace o7_5 := o7_5.ext e7_11
      refine ⟨⟨hE, trivial⟩, ?_⟩
      refine H_take (i := 12) rfl (by kernel_rfl) (by kernel_rfl) (by kernel_rfl) rfl (pq_then pq_body) ⟨hE, trivial⟩ rfl (fun w hw => R_assign rfl) ?_
      refine H_take (i := 13) rfl (by kernel_rfl) (by kernel_rfl) (by kernel_rfl) rfl (pq_then pq_body) ⟨hE, trivial⟩ rfl (fun w hw => R_assign rfl) ?_
      refine H_done (by kernel_rfl) ?_
      refine T_tn ?_
      refine wp_seq ?_
      refine W_region ?_
      refine L (D_v (R_assign rfl) ?_)
      refine S_nil ?_
      refine T_tn ?_
      refine wp_seq ?_
      refine wp_block ?_
      refine W_loop (fun mz g W => ∃ (va : Value) (ya : List Sg) (vb : Value) (yb : List Sg) (zs : List Sg) (r9 : Value), mz = ya.length + yb.length ∧ g 7 = va ∧ g 8 = vb ∧ g 9 = r9 ∧ Ext w W ∧ Ow cS lo w.heap.size W v7_5 y7_5 ∧ Ow cS lo w.heap.size W v7_11 y7_11 ∧ Ow cS lo w.heap.size W r9 zs ∧ (∀ k, Value.ownBlock v7_5 = some k → Value.ownBlock r9 ≠ some k) ∧ (∀ k, Value.ownBlock v7_11 = some k → Value.ownBlock r9 ≠ some k) ∧ CutOf cS v7_5 y7_5 va ya ∧ CutOf cS v7_11 y7_11 vb yb ∧ zs.length + ya.length + yb.length ≤ xs.length ∧ Ms (y7_5 ++ y7_11) zs ya yb) ⟨v7_5, y7_5, v7_11, y7_11, [], _, rfl, rfl, rfl, rfl, hE, o7_5, o7_11, (Ow.nil cS lo _ _), (fun k _ h => nomatch (show (none : Option Nat) = some _ from h)), (fun k _ h => nomatch (show (none : Option Nat) = some _ from h)), (CutOf.refl _ _ _), (CutOf.refl _ _ _), (by simp only [List.length_nil, List.length_take, List.length_drop] at *; omega), (Ms.start cn7_5 cn7_11)⟩ ?_
      rintro mz f9 w9l ⟨va, ya, vb, yb, zs, r9, hm, q7, q8, q9, hE, ov7_5, ov7_11, or9, zv7_5_r9, zv7_11_r9, ca, cb, hz, hM⟩
      refine wp_seq ?_
      refine wp_seq ?_
      refine W_region ?_
      refine L (D_v (R_move q7) ?_)
      refine L (D_v (R_len Try.underlying46 rfl (ov7_5.ls.via ca).1) ?_)
      refine L (D_v (R_gtrI rfl rfl) ?_)
      refine L (D_v (R_move rfl) ?_)
      refine L (D_g1 rfl rfl (fun hb => R_move q8) ?_)
      refine L (D_g1 rfl rfl (fun hb => R_len Try.underlying46 (cgE hb) (ov7_11.ls.via cb).1) ?_)
      refine L (D_g1 rfl rfl (fun hb => R_gtrI (cgE hb) rfl) ?_)
      refine L (D_v (R_pickO rfl rfl rfl) ?_)
      refine S_nil ?_
      refine T_tn ?_
      refine W_if rfl (fun c3 => ?_) (fun c3 => ?_)
      ·
        have l12 : 0 < ya.length ∨ 0 < yb.length := by (revert c3; generalize ya.length = m9; generalize yb.length = k9; intro h8; simp at h8; omega)
        refine wp_skip ?_
        refine T_tn ?_
        refine wp_block ?_
        refine wp_block ?_
        refine wp_seq ?_
        refine W_draw mixed (by kernel_rfl) ?_
        refine Q_v (fun w hw => R_move q8) ?_
        refine Q_v (fun w hw => R_len Try.underlying46 rfl ((ov7_11.ls.ext hw).via cb).1) ?_
        refine Q_v (fun w hw => R_eqlI rfl rfl) ?_
        refine Q_v (fun w hw => R_move rfl) ?_
        refine Q_g1 rfl rfl (fun hb w hw => R_move q7) ?_
        refine Q_g1 rfl rfl (fun hb w hw => R_len Try.underlying46 (cgE hb) ((ov7_5.ls.ext hw).via ca).1) ?_
        refine Q_g1 rfl rfl (fun hb w hw => R_gtrI (cgE hb) rfl) ?_
        refine Q_g1 rfl rfl (fun hb w hw => R_move (cgE hb)) ?_
        refine Q_g2 rfl rfl (fun hg hb w hw => R_move q7) ?_
        refine Q_g2 rfl rfl (fun hg hb w hw => R_elAddr (i := 0) Try.underlying46 Try.sizeOf53 (cgA hg hb) rfl ((ov7_5.ls.ext hw).via ca).1 (by first | omega | (revert hb; generalize ya.length = m9; generalize yb.length = k9; intro hb; simp at hb; omega) | (revert hb hg; generalize ya.length = m9; generalize yb.length = k9; intro hb hg; simp at hb hg; omega))) ?_
        refine Q_g2 rfl rfl (fun hg hb w hw => R_fieldEl (k := 0 * 23) Try.runUnderlying53 rfl Try.sizeOf26 ((ov7_5.ls.ext hw).via ca).1 (lel_ltz (C := cS) (s := 23) rfl (by decide) (getD_some (d := Sg.zero) (by first | omega | (revert hb; generalize ya.length = m9; generalize yb.length = k9; intro hb; simp at hb; omega) | (revert hb hg; generalize ya.length = m9; generalize yb.length = k9; intro hb hg; simp at hb hg; omega)))) (cgA hg hb)) ?_
        refine Q_g2 rfl rfl (fun hg hb w hw => R_ldP (C := cS) (i := 0) (k := 0) (y := ((ya).getD (0) Sg.zero)) (c := ((((ya).getD (0) Sg.zero)).vote).l) Try.isAgg26 Try.sizeOf26 (cgA hg hb) ((ov7_5.ls.ext hw).via ca) (getD_some (d := Sg.zero) (by first | omega | (revert hb; generalize ya.length = m9; generalize yb.length = k9; intro hb; simp at hb; omega) | (revert hb hg; generalize ya.length = m9; generalize yb.length = k9; intro hb hg; simp at hb hg; omega))) (by decide) (by decide) rfl) ?_
        refine Q_g2 rfl rfl (fun hg hb w hw => R_move q8) ?_
        refine Q_g2 rfl rfl (fun hg hb w hw => R_elAddr (i := 0) Try.underlying46 Try.sizeOf53 (cgA hg hb) rfl ((ov7_11.ls.ext hw).via cb).1 (by first | omega | (revert hb; generalize ya.length = m9; generalize yb.length = k9; intro hb; simp at hb; omega) | (revert hb hg; generalize ya.length = m9; generalize yb.length = k9; intro hb hg; simp at hb hg; omega))) ?_
        refine Q_g2 rfl rfl (fun hg hb w hw => R_fieldEl (k := 0 * 23) Try.runUnderlying53 rfl Try.sizeOf26 ((ov7_11.ls.ext hw).via cb).1 (lel_ltz (C := cS) (s := 23) rfl (by decide) (getD_some (d := Sg.zero) (by first | omega | (revert hb; generalize ya.length = m9; generalize yb.length = k9; intro hb; simp at hb; omega) | (revert hb hg; generalize ya.length = m9; generalize yb.length = k9; intro hb hg; simp at hb hg; omega)))) (cgA hg hb)) ?_
        refine Q_g2 rfl rfl (fun hg hb w hw => R_ldP (C := cS) (i := 0) (k := 0) (y := ((yb).getD (0) Sg.zero)) (c := ((((yb).getD (0) Sg.zero)).vote).l) Try.isAgg26 Try.sizeOf26 (cgA hg hb) ((ov7_11.ls.ext hw).via cb) (getD_some (d := Sg.zero) (by first | omega | (revert hb; generalize ya.length = m9; generalize yb.length = k9; intro hb; simp at hb; omega) | (revert hb hg; generalize ya.length = m9; generalize yb.length = k9; intro hb hg; simp at hb hg; omega))) (by decide) (by decide) rfl) ?_
        refine Q_gc2 rfl rfl (fun hg hb w hw => R_callF Try.call34 (mapv2 (cgA hg hb) (cgA hg hb)) rfl) (fun hg hb w hw => c34 ((((ya).getD (0) Sg.zero)).vote) ((((yb).getD (0) Sg.zero)).vote) _ ) ?_
        refine Q_g1 rfl rfl (fun hb w hw => R_pickA (cgE hb) (cgD hb) rfl) ?_
        refine Q_v (fun w hw => R_pickO rfl rfl rfl) ?_
        refine Q_v (fun w hw => R_assign rfl) ?_
        refine Q_nil (fun w11_99 e11_99 => ?_)
        replace hE := hE.trans e11_99
        replace ov7_5 := ov7_5.ext e11_99
        replace ov7_11 := ov7_11.ext e11_99
        replace or9 := or9.ext e11_99
        refine T_tn ?_
        refine W_if rfl (fun c4 => ?_) (fun c4 => ?_)
        ·
          have hcA := condA c4
          have la : 0 < ya.length := by (revert c4 l12; generalize ya.length = m9; generalize yb.length = k9; intro h9 h8; simp at h8; omega)
          refine wp_seq ?_
          refine W_region ?_
          refine L (D_v (R_move q9) ?_)
          refine L (D_v (R_move q7) ?_)
          refine L (D_v (R_elAddr (i := 0) Try.underlying46 Try.sizeOf53 rfl rfl (ov7_5.ls.via ca).1 (by first | omega | (revert hb; generalize ya.length = m9; generalize yb.length = k9; intro hb; simp at hb; omega) | (revert hb hg; generalize ya.length = m9; generalize yb.length = k9; intro hb hg; simp at hb hg; omega))) ?_)
          have k12_3 := ((ov7_5.ls.via ca)).get (i := 0) (getD_some (d := Sg.zero) (by first | omega | (revert hb; generalize ya.length = m9; generalize yb.length = k9; intro hb; simp at hb; omega) | (revert hb hg; generalize ya.length = m9; generalize yb.length = k9; intro hb hg; simp at hb hg; omega)))
          refine L (D_v (R_ldL (C := cS) (i := 0) (y := ((ya).getD (0) Sg.zero)) Try.isAgg53 Try.sizeOf53 rfl (ov7_5.ls.via ca) (getD_some (d := Sg.zero) (by first | omega | (revert hb; generalize ya.length = m9; generalize yb.length = k9; intro hb; simp at hb; omega) | (revert hb hg; generalize ya.length = m9; generalize yb.length = k9; intro hb hg; simp at hb hg; omega)))) ?_)
          refine L (D_buildL1 (C := cS) (lo := lo) (y := ((ya).getD (0) Sg.zero)) Try.underlying46 Try.sizeOf53 Try.zeroValue53 (mapp1 rfl) (by decide) k12_3 (fun v12_4 w12_4 o12_4 e12_4 => ?_))
          have zv7_5_v12_4 := own_apart ov7_5.1 o12_4.1
          have zv12_4_v7_5 := fun k hk hk2 => zv7_5_v12_4 k hk2 hk
          have zv7_11_v12_4 := own_apart ov7_11.1 o12_4.1
          have zv12_4_v7_11 := fun k hk hk2 => zv7_11_v12_4 k hk2 hk
          have zr9_v12_4 := own_apart or9.1 o12_4.1
          have zv12_4_r9 := fun k hk hk2 => zr9_v12_4 k hk2 hk
          replace o12_4 := o12_4.low hE.size
          replace hE := hE.trans e12_4
          replace ov7_5 := ov7_5.ext e12_4
          replace ov7_11 := ov7_11.ext e12_4
          replace or9 := or9.ext e12_4
          replace k12_3 := k12_3.fb (Fb.ext e12_4)
          refine L (D_appendL elt53 Try.underlying46 rfl rfl or9 hlo o12_4.ls (by (try simp only [List.length_take, List.length_drop, List.length_append, List.length_cons, List.length_nil, List.length_replicate, List.length_set, Nm.b_len, be2_len]); omega) (by (try simp only [List.length_take, List.length_drop, List.length_append, List.length_cons, List.length_nil, List.length_replicate, List.length_set, Nm.b_len, be2_len]); omega) hE.size (fun v12_5 w12_5 o12_5 g12_5 f12_5 sv12_5 => ?_))
          have zv7_5_v12_5 : ∀ k, Value.ownBlock v7_5 = some k → Value.ownBlock v12_5 ≠ some k := fun k hk2 hk => (sv12_5 _ hk).elim (fun h => zv7_5_r9 k hk2 h) (fun h => absurd h (Nat.not_le.2 (own_lt ov7_5.1 hk2)))
          have zv12_5_v7_5 := fun k hk hk2 => zv7_5_v12_5 k hk2 hk
          have zv7_11_v12_5 : ∀ k, Value.ownBlock v7_11 = some k → Value.ownBlock v12_5 ≠ some k := fun k hk2 hk => (sv12_5 _ hk).elim (fun h => zv7_11_r9 k hk2 h) (fun h => absurd h (Nat.not_le.2 (own_lt ov7_11.1 hk2)))
          have zv12_5_v7_11 := fun k hk hk2 => zv7_11_v12_5 k hk2 hk
          have zv12_4_v12_5 : ∀ k, Value.ownBlock v12_4 = some k → Value.ownBlock v12_5 ≠ some k := fun k hk2 hk => (sv12_5 _ hk).elim (fun h => zv12_4_r9 k hk2 h) (fun h => absurd h (Nat.not_le.2 (own_lt o12_4.1 hk2)))
          have zv12_5_v12_4 := fun k hk hk2 => zv12_4_v12_5 k hk2 hk
          replace hE := hE.grown g12_5 (fun k hk => own_ge or9.1 hk)
          replace ov7_5 := ov7_5.grown g12_5 (zv7_5_r9) f12_5
          replace ov7_11 := ov7_11.grown g12_5 (zv7_11_r9) f12_5
          replace o12_4 := o12_4.grown g12_5 (zv12_4_r9) f12_5
          replace k12_3 := k12_3.fb f12_5
          refine L (D_v (R_assign rfl) ?_)
          refine S_nil ?_
          refine T_tn ?_
          refine W_region ?_
          refine L (D_v (R_move q7) ?_)
          refine L (D_v (R_sliceLo (i := 1) Try.underlying46 Try.sizeOf53 rfl rfl (ov7_5.ls.via ca).1 (by (try simp only [List.length_take, List.length_drop, List.length_append, List.length_cons, List.length_nil, List.length_replicate, List.length_set, Nm.b_len, be2_len]); omega)) ?_)
          refine L (D_v (R_assign rfl) ?_)
          refine S_nil ?_
          refine T_bn ?_
          refine T_bn ?_
          refine T_tn ?_
          refine ⟨_, _, ?_, rfl, (cutV va (Cd.sz cS) (1) ((ya).length)), (((ya).drop (1)).take ((ya).length - 1)), vb, yb, _, _, rfl, rfl, q8, rfl, hE, ov7_5, ov7_11, o12_5, zv7_5_v12_5, zv7_11_v12_5, ?_, ?_, ?_, ?_⟩
          all_goals first | omega | exact ca | exact cb | exact ca.cut (by omega) (Nat.le_refl _) | exact cb.cut (by omega) (Nat.le_refl _) | (simp only [List.length_append, List.length_cons, List.length_nil, List.length_take, List.length_drop]; omega) | exact hM.takeA la hcA | exact hM.takeB lb hcB | exact hM.dropB la lb hve hle | exact hM.dropA la lb hve hle
        ·
          obtain ⟨lb, hcA⟩ := condA0 c4
          refine wp_seq ?_
          refine W_draw mixed (by kernel_rfl) ?_
          refine Q_v (fun w hw => R_move q7) ?_
          refine Q_v (fun w hw => R_len Try.underlying46 rfl ((ov7_5.ls.ext hw).via ca).1) ?_
          refine Q_v (fun w hw => R_eqlI rfl rfl) ?_
          refine Q_v (fun w hw => R_move rfl) ?_
          refine Q_g1 rfl rfl (fun hb w hw => R_move q8) ?_
          refine Q_g1 rfl rfl (fun hb w hw => R_elAddr (i := 0) Try.underlying46 Try.sizeOf53 (cgE hb) rfl ((ov7_11.ls.ext hw).via cb).1 (by first | omega | (revert hb; generalize ya.length = m9; generalize yb.length = k9; intro hb; simp at hb; omega) | (revert hb hg; generalize ya.length = m9; generalize yb.length = k9; intro hb hg; simp at hb hg; omega))) ?_
          refine Q_g1 rfl rfl (fun hb w hw => R_fieldEl (k := 0 * 23) Try.runUnderlying53 rfl Try.sizeOf26 ((ov7_11.ls.ext hw).via cb).1 (lel_ltz (C := cS) (s := 23) rfl (by decide) (getD_some (d := Sg.zero) (by first | omega | (revert hb; generalize ya.length = m9; generalize yb.length = k9; intro hb; simp at hb; omega) | (revert hb hg; generalize ya.length = m9; generalize yb.length = k9; intro hb hg; simp at hb hg; omega)))) (cgE hb)) ?_
          refine Q_g1 rfl rfl (fun hb w hw => R_ldP (C := cS) (i := 0) (k := 0) (y := ((yb).getD (0) Sg.zero)) (c := ((((yb).getD (0) Sg.zero)).vote).l) Try.isAgg26 Try.sizeOf26 (cgE hb) ((ov7_11.ls.ext hw).via cb) (getD_some (d := Sg.zero) (by first | omega | (revert hb; generalize ya.length = m9; generalize yb.length = k9; intro hb; simp at hb; omega) | (revert hb hg; generalize ya.length = m9; generalize yb.length = k9; intro hb hg; simp at hb hg; omega))) (by decide) (by decide) rfl) ?_
          refine Q_g1 rfl rfl (fun hb w hw => R_move q7) ?_
          refine Q_g1 rfl rfl (fun hb w hw => R_elAddr (i := 0) Try.underlying46 Try.sizeOf53 (cgE hb) rfl ((ov7_5.ls.ext hw).via ca).1 (by first | omega | (revert hb; generalize ya.length = m9; generalize yb.length = k9; intro hb; simp at hb; omega) | (revert hb hg; generalize ya.length = m9; generalize yb.length = k9; intro hb hg; simp at hb hg; omega))) ?_
          refine Q_g1 rfl rfl (fun hb w hw => R_fieldEl (k := 0 * 23) Try.runUnderlying53 rfl Try.sizeOf26 ((ov7_5.ls.ext hw).via ca).1 (lel_ltz (C := cS) (s := 23) rfl (by decide) (getD_some (d := Sg.zero) (by first | omega | (revert hb; generalize ya.length = m9; generalize yb.length = k9; intro hb; simp at hb; omega) | (revert hb hg; generalize ya.length = m9; generalize yb.length = k9; intro hb hg; simp at hb hg; omega)))) (cgE hb)) ?_
          refine Q_g1 rfl rfl (fun hb w hw => R_ldP (C := cS) (i := 0) (k := 0) (y := ((ya).getD (0) Sg.zero)) (c := ((((ya).getD (0) Sg.zero)).vote).l) Try.isAgg26 Try.sizeOf26 (cgE hb) ((ov7_5.ls.ext hw).via ca) (getD_some (d := Sg.zero) (by first | omega | (revert hb; generalize ya.length = m9; generalize yb.length = k9; intro hb; simp at hb; omega) | (revert hb hg; generalize ya.length = m9; generalize yb.length = k9; intro hb hg; simp at hb hg; omega))) (by decide) (by decide) rfl) ?_
          refine Q_gc1 rfl rfl (fun hb w hw => R_callF Try.call34 (mapv2 (cgE hb) (cgE hb)) rfl) (fun hb w hw => c34 ((((yb).getD (0) Sg.zero)).vote) ((((ya).getD (0) Sg.zero)).vote) _ ) ?_
          refine Q_v (fun w hw => R_pickO rfl rfl rfl) ?_
          refine Q_v (fun w hw => R_assign rfl) ?_
          refine Q_nil (fun w12_99 e12_99 => ?_)
          replace hE := hE.trans e12_99
          replace ov7_5 := ov7_5.ext e12_99
          replace ov7_11 := ov7_11.ext e12_99
          replace or9 := or9.ext e12_99
          refine T_tn ?_
          refine W_if rfl (fun c5 => ?_) (fun c5 => ?_)
          ·
            have hcB := condB c5
            refine wp_seq ?_
            refine W_region ?_
            refine L (D_v (R_move q9) ?_)
            refine L (D_v (R_move q8) ?_)
            refine L (D_v (R_elAddr (i := 0) Try.underlying46 Try.sizeOf53 rfl rfl (ov7_11.ls.via cb).1 (by first | omega | (revert hb; generalize ya.length = m9; generalize yb.length = k9; intro hb; simp at hb; omega) | (revert hb hg; generalize ya.length = m9; generalize yb.length = k9; intro hb hg; simp at hb hg; omega))) ?_)
            have k13_3 := ((ov7_11.ls.via cb)).get (i := 0) (getD_some (d := Sg.zero) (by first | omega | (revert hb; generalize ya.length = m9; generalize yb.length = k9; intro hb; simp at hb; omega) | (revert hb hg; generalize ya.length = m9; generalize yb.length = k9; intro hb hg; simp at hb hg; omega)))
            refine L (D_v (R_ldL (C := cS) (i := 0) (y := ((yb).getD (0) Sg.zero)) Try.isAgg53 Try.sizeOf53 rfl (ov7_11.ls.via cb) (getD_some (d := Sg.zero) (by first | omega | (revert hb; generalize ya.length = m9; generalize yb.length = k9; intro hb; simp at hb; omega) | (revert hb hg; generalize ya.length = m9; generalize yb.length = k9; intro hb hg; simp at hb hg; omega)))) ?_)
            refine L (D_buildL1 (C := cS) (lo := lo) (y := ((yb).getD (0) Sg.zero)) Try.underlying46 Try.sizeOf53 Try.zeroValue53 (mapp1 rfl) (by decide) k13_3 (fun v13_4 w13_4 o13_4 e13_4 => ?_))
            have zv7_5_v13_4 := own_apart ov7_5.1 o13_4.1
            have zv13_4_v7_5 := fun k hk hk2 => zv7_5_v13_4 k hk2 hk
            have zv7_11_v13_4 := own_apart ov7_11.1 o13_4.1
            have zv13_4_v7_11 := fun k hk hk2 => zv7_11_v13_4 k hk2 hk
            have zr9_v13_4 := own_apart or9.1 o13_4.1
            have zv13_4_r9 := fun k hk hk2 => zr9_v13_4 k hk2 hk
            replace o13_4 := o13_4.low hE.size
            replace hE := hE.trans e13_4
            replace ov7_5 := ov7_5.ext e13_4
            replace ov7_11 := ov7_11.ext e13_4
            replace or9 := or9.ext e13_4
            replace k13_3 := k13_3.fb (Fb.ext e13_4)
            refine L (D_appendL elt53 Try.underlying46 rfl rfl or9 hlo o13_4.ls (by (try simp only [List.length_take, List.length_drop, List.length_append, List.length_cons, List.length_nil, List.length_replicate, List.length_set, Nm.b_len, be2_len]); omega) (by (try simp only [List.length_take, List.length_drop, List.length_append, List.length_cons, List.length_nil, List.length_replicate, List.length_set, Nm.b_len, be2_len]); omega) hE.size (fun v13_5 w13_5 o13_5 g13_5 f13_5 sv13_5 => ?_))
            have zv7_5_v13_5 : ∀ k, Value.ownBlock v7_5 = some k → Value.ownBlock v13_5 ≠ some k := fun k hk2 hk => (sv13_5 _ hk).elim (fun h => zv7_5_r9 k hk2 h) (fun h => absurd h (Nat.not_le.2 (own_lt ov7_5.1 hk2)))
            have zv13_5_v7_5 := fun k hk hk2 => zv7_5_v13_5 k hk2 hk
            have zv7_11_v13_5 : ∀ k, Value.ownBlock v7_11 = some k → Value.ownBlock v13_5 ≠ some k := fun k hk2 hk => (sv13_5 _ hk).elim (fun h => zv7_11_r9 k hk2 h) (fun h => absurd h (Nat.not_le.2 (own_lt ov7_11.1 hk2)))
            have zv13_5_v7_11 := fun k hk hk2 => zv7_11_v13_5 k hk2 hk
            have zv13_4_v13_5 : ∀ k, Value.ownBlock v13_4 = some k → Value.ownBlock v13_5 ≠ some k := fun k hk2 hk => (sv13_5 _ hk).elim (fun h => zv13_4_r9 k hk2 h) (fun h => absurd h (Nat.not_le.2 (own_lt o13_4.1 hk2)))
            have zv13_5_v13_4 := fun k hk hk2 => zv13_4_v13_5 k hk2 hk
            replace hE := hE.grown g13_5 (fun k hk => own_ge or9.1 hk)
            replace ov7_5 := ov7_5.grown g13_5 (zv7_5_r9) f13_5
            replace ov7_11 := ov7_11.grown g13_5 (zv7_11_r9) f13_5
            replace o13_4 := o13_4.grown g13_5 (zv13_4_r9) f13_5
            replace k13_3 := k13_3.fb f13_5
            refine L (D_v (R_assign rfl) ?_)
            refine S_nil ?_
            refine T_tn ?_
            refine W_region ?_
            refine L (D_v (R_move q8) ?_)
            refine L (D_v (R_sliceLo (i := 1) Try.underlying46 Try.sizeOf53 rfl rfl (ov7_11.ls.via cb).1 (by (try simp only [List.length_take, List.length_drop, List.length_append, List.length_cons, List.length_nil, List.length_replicate, List.length_set, Nm.b_len, be2_len]); omega)) ?_)
            refine L (D_v (R_assign rfl) ?_)
            refine S_nil ?_
            refine T_bn ?_
            refine T_bn ?_
            refine T_tn ?_
            refine ⟨_, _, ?_, rfl, va, ya, (cutV vb (Cd.sz cS) (1) ((yb).length)), (((yb).drop (1)).take ((yb).length - 1)), _, _, rfl, q7, rfl, rfl, hE, ov7_5, ov7_11, o13_5, zv7_5_v13_5, zv7_11_v13_5, ?_, ?_, ?_, ?_⟩
            all_goals first | omega | exact ca | exact cb | exact ca.cut (by omega) (Nat.le_refl _) | exact cb.cut (by omega) (Nat.le_refl _) | (simp only [List.length_append, List.length_cons, List.length_nil, List.length_take, List.length_drop]; omega) | exact hM.takeA la hcA | exact hM.takeB lb hcB | exact hM.dropB la lb hve hle | exact hM.dropA la lb hve hle
          ·
            obtain ⟨la, hcB⟩ := condB0 c5
            have hve := vote_eq (hcA la) hcB
            have ka := ((ov7_5.ls.via ca)).get (i := 0) (getD_some (d := Sg.zero) la)
            have kb := ((ov7_11.ls.via cb)).get (i := 0) (getD_some (d := Sg.zero) lb)
            refine wp_seq ?_
            refine W_draw mixed (by kernel_rfl) ?_
            refine Q_v (fun w hw => R_move q7) ?_
            refine Q_v (fun w hw => R_elAddr (i := 0) Try.underlying46 Try.sizeOf53 rfl rfl ((ov7_5.ls.ext hw).via ca).1 (by first | omega | (revert hb; generalize ya.length = m9; generalize yb.length = k9; intro hb; simp at hb; omega) | (revert hb hg; generalize ya.length = m9; generalize yb.length = k9; intro hb hg; simp at hb hg; omega))) ?_
            refine Q_v (fun w hw => R_fieldEl (k := 0 * 23) Try.runUnderlying53 rfl Try.sizeOf31 ((ov7_5.ls.ext hw).via ca).1 (lel_ltz (C := cS) (s := 23) rfl (by decide) (getD_some (d := Sg.zero) (by first | omega | (revert hb; generalize ya.length = m9; generalize yb.length = k9; intro hb; simp at hb; omega) | (revert hb hg; generalize ya.length = m9; generalize yb.length = k9; intro hb hg; simp at hb hg; omega)))) rfl) ?_
            refine Q_v (fun w hw => R_ldC (C := cS) (i := 0) (k := 22) (y := ((ya).getD (0) Sg.zero)) (u := (.slice (((ya).getD (0) Sg.zero)).A (((ya).getD (0) Sg.zero)).n (((ya).getD (0) Sg.zero)).c)) Try.isAgg31 rfl ((ov7_5.ls.ext hw).via ca) (getD_some (d := Sg.zero) (by first | omega | (revert hb; generalize ya.length = m9; generalize yb.length = k9; intro hb; simp at hb; omega) | (revert hb hg; generalize ya.length = m9; generalize yb.length = k9; intro hb hg; simp at hb hg; omega))) (by decide) rfl) ?_
            refine Q_v (fun w hw => R_str (b := (((ya).getD (0) Sg.zero)).sig) rfl (ka.fb (Fb.ext hw)).bs) ?_
            refine Q_v (fun w hw => R_move q8) ?_
            refine Q_v (fun w hw => R_elAddr (i := 0) Try.underlying46 Try.sizeOf53 rfl rfl ((ov7_11.ls.ext hw).via cb).1 (by first | omega | (revert hb; generalize ya.length = m9; generalize yb.length = k9; intro hb; simp at hb; omega) | (revert hb hg; generalize ya.length = m9; generalize yb.length = k9; intro hb hg; simp at hb hg; omega))) ?_
            refine Q_v (fun w hw => R_fieldEl (k := 0 * 23) Try.runUnderlying53 rfl Try.sizeOf31 ((ov7_11.ls.ext hw).via cb).1 (lel_ltz (C := cS) (s := 23) rfl (by decide) (getD_some (d := Sg.zero) (by first | omega | (revert hb; generalize ya.length = m9; generalize yb.length = k9; intro hb; simp at hb; omega) | (revert hb hg; generalize ya.length = m9; generalize yb.length = k9; intro hb hg; simp at hb hg; omega)))) rfl) ?_
            refine Q_v (fun w hw => R_ldC (C := cS) (i := 0) (k := 22) (y := ((yb).getD (0) Sg.zero)) (u := (.slice (((yb).getD (0) Sg.zero)).A (((yb).getD (0) Sg.zero)).n (((yb).getD (0) Sg.zero)).c)) Try.isAgg31 rfl ((ov7_11.ls.ext hw).via cb) (getD_some (d := Sg.zero) (by first | omega | (revert hb; generalize ya.length = m9; generalize yb.length = k9; intro hb; simp at hb; omega) | (revert hb hg; generalize ya.length = m9; generalize yb.length = k9; intro hb hg; simp at hb hg; omega))) (by decide) rfl) ?_
            refine Q_v (fun w hw => R_str (b := (((yb).getD (0) Sg.zero)).sig) rfl (kb.fb (Fb.ext hw)).bs) ?_
            refine Q_v (fun w hw => R_leqStr (a := (((ya).getD (0) Sg.zero)).sig) (b := (((yb).getD (0) Sg.zero)).sig) rfl rfl) ?_
            refine Q_v (fun w hw => R_assign rfl) ?_
            refine Q_nil (fun w13_99 e13_99 => ?_)
            replace hE := hE.trans e13_99
            replace ov7_5 := ov7_5.ext e13_99
            replace ov7_11 := ov7_11.ext e13_99
            replace or9 := or9.ext e13_99
            replace ka := ka.fb (Fb.ext e13_99)
            replace kb := kb.fb (Fb.ext e13_99)
            refine T_tn ?_
            refine W_if rfl (fun c6 => ?_) (fun c6 => ?_)
            ·
              have hle := sle_y c6
              refine W_region ?_
              refine L (D_v (R_move q8) ?_)
              refine L (D_v (R_sliceLo (i := 1) Try.underlying46 Try.sizeOf53 rfl rfl (ov7_11.ls.via cb).1 (by (try simp only [List.length_take, List.length_drop, List.length_append, List.length_cons, List.length_nil, List.length_replicate, List.length_set, Nm.b_len, be2_len]); omega)) ?_)
              refine L (D_v (R_assign rfl) ?_)
              refine S_nil ?_
              refine T_bn ?_
              refine T_bn ?_
              refine T_tn ?_
              refine ⟨_, _, ?_, rfl, va, ya, (cutV vb (Cd.sz cS) (1) ((yb).length)), (((yb).drop (1)).take ((yb).length - 1)), _, _, rfl, q7, rfl, q9, hE, ov7_5, ov7_11, or9, zv7_5_r9, zv7_11_r9, ?_, ?_, ?_, ?_⟩
              all_goals first | omega | exact ca | exact cb | exact ca.cut (by omega) (Nat.le_refl _) | exact cb.cut (by omega) (Nat.le_refl _) | (simp only [List.length_append, List.length_cons, List.length_nil, List.length_take, List.length_drop]; omega) | exact hM.takeA la hcA | exact hM.takeB lb hcB | exact hM.dropB la lb hve hle | exact hM.dropA la lb hve hle
            ·
              have hle := sle_n c6
              refine W_region ?_
              refine L (D_v (R_move q7) ?_)
              refine L (D_v (R_sliceLo (i := 1) Try.underlying46 Try.sizeOf53 rfl rfl (ov7_5.ls.via ca).1 (by (try simp only [List.length_take, List.length_drop, List.length_append, List.length_cons, List.length_nil, List.length_replicate, List.length_set, Nm.b_len, be2_len]); omega)) ?_)
              refine L (D_v (R_assign rfl) ?_)
              refine S_nil ?_
              refine T_bn ?_
              refine T_bn ?_
              refine T_tn ?_
              refine ⟨_, _, ?_, rfl, (cutV va (Cd.sz cS) (1) ((ya).length)), (((ya).drop (1)).take ((ya).length - 1)), vb, yb, _, _, rfl, rfl, q8, q9, hE, ov7_5, ov7_11, or9, zv7_5_r9, zv7_11_r9, ?_, ?_, ?_, ?_⟩
              all_goals first | omega | exact ca | exact cb | exact ca.cut (by omega) (Nat.le_refl _) | exact cb.cut (by omega) (Nat.le_refl _) | (simp only [List.length_append, List.length_cons, List.length_nil, List.length_take, List.length_drop]; omega) | exact hM.takeA la hcA | exact hM.takeB lb hcB | exact hM.dropB la lb hve hle | exact hM.dropA la lb hve hle
      ·
        have l00 : ya.length = 0 ∧ yb.length = 0 := by (revert c3; generalize ya.length = m9; generalize yb.length = k9; intro h8; simp at h8; omega)
        refine wp_exit ?_
        refine T_te ?_
        refine T_te ?_
        refine T_be ?_
        refine T_tn ?_
        refine wp_seq ?_
        refine W_region ?_
        refine L (D_v (R_move q9) ?_)
        refine L (D_v (R_assign rfl) ?_)
        refine S_nil ?_
        refine T_tn ?_
        refine wp_ret ?_
        refine ret1 (v := r9) rfl rfl ⟨_, rfl, hE, ?_⟩
        first | exact ⟨_, or9, by first | omega | (simp only [List.length_append, List.length_nil] at *; omega), can_of_asc (by rw [List.take_of_length_le (Nat.le_refl _)] at hcp; exact hcp) hall⟩ | exact ⟨_, or9, by first | omega | (simp only [List.length_append, List.length_nil] at *; omega), halves cn7_5 cn7_11 (hM.fin l00.1 l00.2)⟩
theorem c65kf (F : Nat) : ∀ (lo : Nat) (v : Value) (xs : List Sg) (w : World), xs.length < F → lo ≤ w.heap.size → xs.length ≤ 1000000 → Ls cS lo w v xs → (∀ x ∈ xs, x.sig.length ≤ 140737488355328) → Calls Try.prog 65 [v].toArray w (RetE w fun r w' => ∃ ys, Ow cS lo w.heap.size w' r ys ∧ ys.length ≤ xs.length ∧ IsCan (xs.map Sg.p) (ys.map Sg.p)) := by
  induction F with
  | zero => exact fun lo v xs w hF => absurd hF (Nat.not_lt_zero _)
  | succ F ih => exact fun lo v xs w hF => c65ks F ih lo v xs w hF
theorem c65k (lo : Nat) (v : Value) (xs : List Sg) (w : World) (hlo : lo ≤ w.heap.size) (hn : xs.length ≤ 1000000) (h : Ls cS lo w v xs) (hsl : ∀ x ∈ xs, x.sig.length ≤ 140737488355328) : Calls Try.prog 65 [v].toArray w (RetE w fun r w' => ∃ ys, Ow cS lo w.heap.size w' r ys ∧ ys.length ≤ xs.length ∧ IsCan (xs.map Sg.p) (ys.map Sg.p)) := c65kf (xs.length + 1) lo v xs w (Nat.lt_succ_self _) hlo hn h hsl
set_option maxRecDepth 4000 in
set_option maxHeartbeats 1500000 in
theorem c100s (F : Nat) (ih : ∀ (v : Value) (xs : List Vt) (w : World), xs.length < F → xs.length ≤ 1000000 → Ls cV w.heap.size w v xs → Calls Try.prog 100 [v].toArray w (RetE w fun r w' => ∃ ys, Ow cV w.heap.size w.heap.size w' r ys ∧ ys.length ≤ xs.length ∧ ascV ys ∧ ∀ x, x ∈ ys ↔ x ∈ xs)) (v : Value) (xs : List Vt) (w : World) (hF : xs.length < F + 1) (hn : xs.length ≤ 1000000) (h : Ls cV w.heap.size w v xs) : Calls Try.prog 100 [v].toArray w (RetE w fun r w' => ∃ ys, Ow cV w.heap.size w.heap.size w' r ys ∧ ys.length ≤ xs.length ∧ ascV ys ∧ ∀ x, x ∈ ys ↔ x ∈ xs) := by
  refine enter Try.func100 Try.ntmps100 rfl rfl ?_
  have hE := Ext.refl w
  refine wp_seq ?_
  refine W_region ?_
  refine L (D_v (R_assign rfl) ?_)
  refine S_nil ?_
  refine T_tn ?_
  refine wp_seq ?_
  refine W_region ?_
  refine L (D_v (R_assign rfl) ?_)
  refine S_nil ?_
  refine T_tn ?_
  refine wp_seq ?_
  refine wp_seq ?_
  refine W_region ?_
  refine L (D_v (R_assign rfl) ?_)
  refine S_nil ?_
  refine T_tn ?_
  refine wp_block ?_
  refine W_loop (fun mz g W => ∃ (i : Nat) (B : Bool), mz = xs.length - i ∧ g 0 = v ∧ g 3 = .bool B ∧ g 4 = i64 ((i : Nat) : Int) ∧ Ext w W ∧ (B = true ∨ 2 ≤ xs.length) ∧ i ≤ xs.length ∧ (B = true → ∀ j : Nat, j < i → j + 1 < xs.length → lessV (xs.getD j Vt.zero) (xs.getD (j + 1) Vt.zero) = true)) ⟨0, true, rfl, rfl, rfl, rfl, hE, (.inl rfl), (Nat.zero_le _), (fun _ j hj => absurd hj (by omega))⟩ ?_
  rintro mz f4 w4l ⟨i, B, hm, q0, q3, q4, hE, hB, hi, hready⟩
  refine wp_seq ?_
  refine wp_seq ?_
  refine W_region ?_
  refine L (D_v (R_move q4) ?_)
  refine L (D_v (R_addN (m := i) (j := 1) rfl rfl (by (try simp only [List.length_take, List.length_drop, List.length_append, List.length_cons, List.length_nil, List.length_replicate, List.length_set, Nm.b_len, be2_len]); omega)) ?_)
  refine L (D_v (R_move q0) ?_)
  refine L (D_v (R_len Try.underlying61 rfl (h.ext hE).1) ?_)
  refine L (D_v (R_lssI rfl rfl) ?_)
  refine L (D_v (R_move rfl) ?_)
  refine L (D_g1 rfl rfl (fun hb => R_move q3) ?_)
  refine L (D_v (R_pickA rfl rfl rfl) ?_)
  refine S_nil ?_
  refine T_tn ?_
  refine W_if rfl (fun c1 => ?_) (fun c1 => ?_)
  ·
    have lk : i + 1 < xs.length := by simp at c1; omega
    have hBt : B = true := by simp at c1; exact c1.2
    refine wp_skip ?_
    refine T_tn ?_
    refine wp_seq ?_
    refine wp_block ?_
    refine W_draw mixed (by kernel_rfl) ?_
    refine Q_v (fun w hw => R_move q0) ?_
    refine Q_v (fun w hw => R_move q4) ?_
    refine Q_v (fun w hw => R_elAddr (i := i) Try.underlying61 Try.sizeOf26 rfl rfl (h.ext (hE.trans hw)).1 (by (try simp only [List.length_take, List.length_drop, List.length_append, List.length_cons, List.length_nil, List.length_replicate, List.length_set, Nm.b_len, be2_len]); omega)) ?_
    refine Q_v (fun w hw => R_ldL (C := cV) (i := i) (y := ((xs).getD (i) Vt.zero)) Try.isAgg26 Try.sizeOf26 rfl (h.ext (hE.trans hw)) (getD_some (d := Vt.zero) (by (try simp only [List.length_take, List.length_drop, List.length_append, List.length_cons, List.length_nil, List.length_replicate, List.length_set, Nm.b_len, be2_len]); omega))) ?_
    refine Q_v (fun w hw => R_move q0) ?_
    refine Q_v (fun w hw => R_move q4) ?_
    refine Q_v (fun w hw => R_addN (m := i) (j := 1) rfl rfl (by (try simp only [List.length_take, List.length_drop, List.length_append, List.length_cons, List.length_nil, List.length_replicate, List.length_set, Nm.b_len, be2_len]); omega)) ?_
    refine Q_v (fun w hw => R_elAddr (i := (i + 1)) Try.underlying61 Try.sizeOf26 rfl rfl (h.ext (hE.trans hw)).1 (by (try simp only [List.length_take, List.length_drop, List.length_append, List.length_cons, List.length_nil, List.length_replicate, List.length_set, Nm.b_len, be2_len]); omega)) ?_
    refine Q_v (fun w hw => R_ldL (C := cV) (i := (i + 1)) (y := ((xs).getD ((i + 1)) Vt.zero)) Try.isAgg26 Try.sizeOf26 rfl (h.ext (hE.trans hw)) (getD_some (d := Vt.zero) (by (try simp only [List.length_take, List.length_drop, List.length_append, List.length_cons, List.length_nil, List.length_replicate, List.length_set, Nm.b_len, be2_len]); omega))) ?_
    refine Q_call (fun w hw => R_callF Try.call34 rfl rfl) (fun w hw => c34 (((xs).getD (i) Vt.zero)) (((xs).getD ((i + 1)) Vt.zero)) _ ) ?_
    refine Q_v (fun w hw => R_assign rfl) ?_
    refine Q_nil (fun w6_99 e6_99 => ?_)
    replace hE := hE.trans e6_99
    refine T_bn ?_
    refine T_tn ?_
    refine W_region ?_
    refine L (D_v (R_move q4) ?_)
    refine L (D_v (R_addN (m := i) (j := 1) rfl rfl (by (try simp only [List.length_take, List.length_drop, List.length_append, List.length_cons, List.length_nil, List.length_replicate, List.length_set, Nm.b_len, be2_len]); omega)) ?_)
    refine L (D_v (R_assign rfl) ?_)
    refine S_nil ?_
    refine T_tn ?_
    refine ⟨_, _, ?_, rfl, i + 1, _, rfl, q0, rfl, rfl, hE, ?_, ?_, ?_⟩
    all_goals first | omega | exact .inr (by omega) | exact fun h8 j hj hj2 => (Nat.lt_succ_iff_lt_or_eq.1 hj).elim (fun h3 => hready hBt j h3 hj2) (fun h3 => by subst h3; exact h8)
  ·
    have hend : B = true → xs.length ≤ i + 1 := by intro h8; rw [h8] at c1; simp at c1; omega
    refine wp_exit ?_
    refine T_te ?_
    refine T_te ?_
    refine T_be ?_
    refine T_tn ?_
    refine wp_seq ?_
    refine wp_seq ?_
    refine W_region ?_
    refine L (D_v (R_move q3) ?_)
    refine S_nil ?_
    refine T_tn ?_
    refine W_if rfl (fun c2 => ?_) (fun c2 => ?_)
    ·
      have hall : ascV xs := asc_of (fun j hj => hready c2 j (by have := hend c2; omega) hj)
      refine wp_seq ?_
      refine W_region ?_
      refine L (D_v (R_move q0) ?_)
      have o7_1n := Ow.nil cV w.heap.size w.heap.size w4l
      refine L (D_appendL elt26 Try.underlying61 rfl rfl o7_1n (Nat.le_refl _) (h.ext hE) (by (try simp only [List.length_take, List.length_drop, List.length_append, List.length_cons, List.length_nil, List.length_replicate, List.length_set, Nm.b_len, be2_len]); omega) (by (try simp only [List.length_take, List.length_drop, List.length_append, List.length_cons, List.length_nil, List.length_replicate, List.length_set, Nm.b_len, be2_len]); omega) hE.size (fun v7_1 w7_1 o7_1 g7_1 f7_1 sv7_1 => ?_))
      replace hE := hE.grown g7_1 (fun k hk => own_ge o7_1n.1 hk)
      refine L (D_v (R_assign rfl) ?_)
      refine S_nil ?_
      refine T_tn ?_
      refine wp_ret ?_
      refine T_tr ?_
      refine ret1 (v := v7_1) rfl rfl ⟨_, rfl, hE, ?_⟩
      first | exact ⟨_, o7_1, by simp, by simpa using hall, fun x => by simp⟩ | exact ⟨_, o7_1, by first | omega | (simp only [List.length_append, List.length_nil] at *; omega), (hM.fin l00.1 l00.2).1, halvesV _ _ (hM.fin l00.1 l00.2).2⟩
    ·
      have h2 : 2 ≤ xs.length := hB.resolve_left (by simp [c2])
      refine wp_skip ?_
      refine T_tn ?_
      refine wp_seq ?_
      refine W_held (fun W => Ext w W ∧ True) mixed (fun w7_99 e7_99 => ?_)
      replace hE := hE.trans e7_99
      refine H_take (i := 0) rfl (by kernel_rfl) (by kernel_rfl) (by kernel_rfl) rfl (pq_then pq_body) ⟨hE, trivial⟩ rfl (fun w hw => R_move q0) ?_
      refine H_take (i := 1) rfl (by kernel_rfl) (by kernel_rfl) (by kernel_rfl) rfl (pq_then pq_body) ⟨hE, trivial⟩ rfl (fun w hw => R_move q0) ?_
      refine H_take (i := 2) rfl (by kernel_rfl) (by kernel_rfl) (by kernel_rfl) rfl (pq_then pq_body) ⟨hE, trivial⟩ rfl (fun w hw => R_len Try.underlying61 rfl (h.ext hw.1).1) ?_
      refine H_take (i := 3) rfl (by kernel_rfl) (by kernel_rfl) (by kernel_rfl) rfl (pq_then pq_body) ⟨hE, trivial⟩ rfl (fun w hw => R_quoN (m := (xs).length) (j := 2) rfl rfl (by decide) (by (try simp only [List.length_take, List.length_drop, List.length_append, List.length_cons, List.length_nil, List.length_replicate, List.length_set, Nm.b_len, be2_len]); omega)) ?_
      refine H_take (i := 4) rfl (by kernel_rfl) (by kernel_rfl) (by kernel_rfl) rfl (pq_then pq_body) ⟨hE, trivial⟩ rfl (fun w hw => R_sliceHi (j := ((xs).length / 2)) Try.underlying61 Try.sizeOf26 rfl rfl (h.ext hw.1).1 (by (try simp only [List.length_take, List.length_drop, List.length_append, List.length_cons, List.length_nil, List.length_replicate, List.length_set, Nm.b_len, be2_len]); omega)) ?_
      refine H_take (i := 6) rfl (by kernel_rfl) (by kernel_rfl) (by kernel_rfl) rfl (pq_then pq_body) ⟨hE, trivial⟩ rfl (fun w hw => R_move q0) ?_
      refine H_take (i := 7) rfl (by kernel_rfl) (by kernel_rfl) (by kernel_rfl) rfl (pq_then pq_body) ⟨hE, trivial⟩ rfl (fun w hw => R_move q0) ?_
      refine H_take (i := 8) rfl (by kernel_rfl) (by kernel_rfl) (by kernel_rfl) rfl (pq_then pq_body) ⟨hE, trivial⟩ rfl (fun w hw => R_len Try.underlying61 rfl (h.ext hw.1).1) ?_
      refine H_take (i := 9) rfl (by kernel_rfl) (by kernel_rfl) (by kernel_rfl) rfl (pq_then pq_body) ⟨hE, trivial⟩ rfl (fun w hw => R_quoN (m := (xs).length) (j := 2) rfl rfl (by decide) (by (try simp only [List.length_take, List.length_drop, List.length_append, List.length_cons, List.length_nil, List.length_replicate, List.length_set, Nm.b_len, be2_len]); omega)) ?_
      refine H_take (i := 10) rfl (by kernel_rfl) (by kernel_rfl) (by kernel_rfl) rfl (pq_then pq_body) ⟨hE, trivial⟩ rfl (fun w hw => R_sliceLo (i := ((xs).length / 2)) Try.underlying61 Try.sizeOf26 rfl rfl (h.ext hw.1).1 (by (try simp only [List.length_take, List.length_drop, List.length_append, List.length_cons, List.length_nil, List.length_replicate, List.length_set, Nm.b_len, be2_len]); omega)) ?_
      refine H_op (i := 5) (by kernel_rfl) rfl rfl (D_callE (R_callF Try.call100 rfl rfl) (ih (cutV v (Cd.sz cV) (0) (((xs).length / 2))) ((((xs).drop (0)).take (((xs).length / 2) - 0))) _ (by simp only [List.length_take, List.length_drop]; omega) (by simp only [List.length_take, List.length_drop]; omega) (((h.ext hE).cut (by (try simp only [List.length_take, List.length_drop, List.length_append, List.length_cons, List.length_nil, List.length_replicate, List.length_set, Nm.b_len, be2_len]); omega) (by (try simp only [List.length_take, List.length_drop, List.length_append, List.length_cons, List.length_nil, List.length_replicate, List.length_set, Nm.b_len, be2_len]); omega)).lev fun _ _ _ => trivial)) (fun v7_5 w7_5 e7_5 p7_5 => ?_))
      obtain ⟨y7_5, o7_5, n7_5, cn7_5, cm7_5⟩ := p7_5
      replace o7_5 := o7_5.low hE.size
      replace o7_5 := Ow.lev (lo' := w.heap.size) o7_5 (fun _ _ _ => trivial)
      replace hE := hE.trans e7_5
      refine ⟨⟨hE, trivial⟩, ?_⟩
      refine H_op (i := 11) (by kernel_rfl) rfl rfl (D_callE (R_callF Try.call100 rfl rfl) (ih (cutV v (Cd.sz cV) (((xs).length / 2)) ((xs).length)) ((((xs).drop (((xs).length / 2))).take ((xs).length - ((xs).length / 2)))) _ (by simp only [List.length_take, List.length_drop]; omega) (by simp only [List.length_take, List.length_drop]; omega) (((h.ext hE).cut (by (try simp only [List.length_take, List.length_drop, List.length_append, List.length_cons, List.length_nil, List.length_replicate, List.length_set, Nm.b_len, be2_len]); omega) (by (try simp only [List.length_take, List.length_drop, List.length_append, List.length_cons, List.length_nil, List.length_replicate, List.length_set, Nm.b_len, be2_len]); omega)).lev fun _ _ _ => trivial)) (fun v7_11 w7_11 e7_11 p7_11 => ?_))
      obtain ⟨y7_11, o7_11, n7_11, cn7_11, cm7_11⟩ := p7_11
      have zv7_5_v7_11 := own_apart o7_5.1 o7_11.1
      have zv7_11_v7_5 := fun k hk hk2 => zv7_5_v7_11 k hk2 hk
      replace o7_11 := o7_11.low hE.size
      replace o7_11 := Ow.lev (lo' := w.heap.size) o7_11 (fun _ _ _ => trivial)
      replace hE := hE.trans e7_11
      replace o7_5 := o7_5.ext e7_11
      refine ⟨⟨hE, trivial⟩, ?_⟩
      refine H_take (i := 12) rfl (by kernel_rfl) (by kernel_rfl) (by kernel_rfl) rfl (pq_then pq_body) ⟨hE, trivial⟩ rfl (fun w hw => R_assign rfl) ?_
      refine H_take (i := 13) rfl (by kernel_rfl) (by kernel_rfl) (by kernel_rfl) rfl (pq_then pq_body) ⟨hE, trivial⟩ rfl (fun w hw => R_assign rfl) ?_
      refine H_done (by kernel_rfl) ?_
      refine T_tn ?_
      refine wp_seq ?_
      refine W_region ?_
      refine L (D_v (R_assign rfl) ?_)
      refine S_nil ?_
      refine T_tn ?_
      refine wp_seq ?_
      refine wp_block ?_
      refine W_loop (fun mz g W => ∃ (va : Value) (ya : List Vt) (vb : Value) (yb : List Vt) (zs : List Vt) (r7 : Value), mz = ya.length + yb.length ∧ g 5 = va ∧ g 6 = vb ∧ g 7 = r7 ∧ Ext w W ∧ Ow cV w.heap.size w.heap.size W v7_5 y7_5 ∧ Ow cV w.heap.size w.heap.size W v7_11 y7_11 ∧ Ow cV w.heap.size w.heap.size W r7 zs ∧ (∀ k, Value.ownBlock v7_5 = some k → Value.ownBlock r7 ≠ some k) ∧ (∀ k, Value.ownBlock v7_11 = some k → Value.ownBlock r7 ≠ some k) ∧ CutOf cV v7_5 y7_5 va ya ∧ CutOf cV v7_11 y7_11 vb yb ∧ zs.length + ya.length + yb.length ≤ xs.length ∧ Mw (y7_5 ++ y7_11) zs ya yb) ⟨v7_5, y7_5, v7_11, y7_11, [], _, rfl, rfl, rfl, rfl, hE, o7_5, o7_11, (Ow.nil cV w.heap.size _ _), (fun k _ h => nomatch (show (none : Option Nat) = some _ from h)), (fun k _ h => nomatch (show (none : Option Nat) = some _ from h)), (CutOf.refl _ _ _), (CutOf.refl _ _ _), (by simp only [List.length_nil, List.length_take, List.length_drop] at *; omega), (Mw.start cn7_5 cn7_11)⟩ ?_
      rintro mz f9 w9l ⟨va, ya, vb, yb, zs, r7, hm, q5, q6, q7, hE, ov7_5, ov7_11, or7, zv7_5_r7, zv7_11_r7, ca, cb, hz, hM⟩
      refine wp_seq ?_
      refine wp_seq ?_
      refine W_region ?_
      refine L (D_v (R_move q5) ?_)
      refine L (D_v (R_len Try.underlying61 rfl (ov7_5.ls.via ca).1) ?_)
      refine L (D_v (R_gtrI rfl rfl) ?_)
      refine L (D_v (R_move rfl) ?_)
      refine L (D_g1 rfl rfl (fun hb => R_move q6) ?_)
      refine L (D_g1 rfl rfl (fun hb => R_len Try.underlying61 (cgE hb) (ov7_11.ls.via cb).1) ?_)
      refine L (D_g1 rfl rfl (fun hb => R_gtrI (cgE hb) rfl) ?_)
      refine L (D_v (R_pickO rfl rfl rfl) ?_)
      refine S_nil ?_
      refine T_tn ?_
      refine W_if rfl (fun c3 => ?_) (fun c3 => ?_)
      ·
        have l12 : 0 < ya.length ∨ 0 < yb.length := by (revert c3; generalize ya.length = m9; generalize yb.length = k9; intro h8; simp at h8; omega)
        refine wp_skip ?_
        refine T_tn ?_
        refine wp_block ?_
        refine wp_block ?_
        refine wp_seq ?_
        refine W_draw mixed (by kernel_rfl) ?_
        refine Q_v (fun w hw => R_move q6) ?_
        refine Q_v (fun w hw => R_len Try.underlying61 rfl ((ov7_11.ls.ext hw).via cb).1) ?_
        refine Q_v (fun w hw => R_eqlI rfl rfl) ?_
        refine Q_v (fun w hw => R_move rfl) ?_
        refine Q_g1 rfl rfl (fun hb w hw => R_move q5) ?_
        refine Q_g1 rfl rfl (fun hb w hw => R_len Try.underlying61 (cgE hb) ((ov7_5.ls.ext hw).via ca).1) ?_
        refine Q_g1 rfl rfl (fun hb w hw => R_gtrI (cgE hb) rfl) ?_
        refine Q_g1 rfl rfl (fun hb w hw => R_move (cgE hb)) ?_
        refine Q_g2 rfl rfl (fun hg hb w hw => R_move q5) ?_
        refine Q_g2 rfl rfl (fun hg hb w hw => R_elAddr (i := 0) Try.underlying61 Try.sizeOf26 (cgA hg hb) rfl ((ov7_5.ls.ext hw).via ca).1 (by first | omega | (revert hb; generalize ya.length = m9; generalize yb.length = k9; intro hb; simp at hb; omega) | (revert hb hg; generalize ya.length = m9; generalize yb.length = k9; intro hb hg; simp at hb hg; omega))) ?_
        refine Q_g2 rfl rfl (fun hg hb w hw => R_ldL (C := cV) (i := 0) (y := ((ya).getD (0) Vt.zero)) Try.isAgg26 Try.sizeOf26 (cgA hg hb) ((ov7_5.ls.ext hw).via ca) (getD_some (d := Vt.zero) (by first | omega | (revert hb; generalize ya.length = m9; generalize yb.length = k9; intro hb; simp at hb; omega) | (revert hb hg; generalize ya.length = m9; generalize yb.length = k9; intro hb hg; simp at hb hg; omega)))) ?_
        refine Q_g2 rfl rfl (fun hg hb w hw => R_move q6) ?_
        refine Q_g2 rfl rfl (fun hg hb w hw => R_elAddr (i := 0) Try.underlying61 Try.sizeOf26 (cgA hg hb) rfl ((ov7_11.ls.ext hw).via cb).1 (by first | omega | (revert hb; generalize ya.length = m9; generalize yb.length = k9; intro hb; simp at hb; omega) | (revert hb hg; generalize ya.length = m9; generalize yb.length = k9; intro hb hg; simp at hb hg; omega))) ?_
        refine Q_g2 rfl rfl (fun hg hb w hw => R_ldL (C := cV) (i := 0) (y := ((yb).getD (0) Vt.zero)) Try.isAgg26 Try.sizeOf26 (cgA hg hb) ((ov7_11.ls.ext hw).via cb) (getD_some (d := Vt.zero) (by first | omega | (revert hb; generalize ya.length = m9; generalize yb.length = k9; intro hb; simp at hb; omega) | (revert hb hg; generalize ya.length = m9; generalize yb.length = k9; intro hb hg; simp at hb hg; omega)))) ?_
        refine Q_gc2 rfl rfl (fun hg hb w hw => R_callF Try.call34 (mapv2 (cgA hg hb) (cgA hg hb)) rfl) (fun hg hb w hw => c34 (((ya).getD (0) Vt.zero)) (((yb).getD (0) Vt.zero)) _ ) ?_
        refine Q_g1 rfl rfl (fun hb w hw => R_pickA (cgE hb) (cgD hb) rfl) ?_
        refine Q_v (fun w hw => R_pickO rfl rfl rfl) ?_
        refine Q_v (fun w hw => R_assign rfl) ?_
        refine Q_nil (fun w11_99 e11_99 => ?_)
        replace hE := hE.trans e11_99
        replace ov7_5 := ov7_5.ext e11_99
        replace ov7_11 := ov7_11.ext e11_99
        replace or7 := or7.ext e11_99
        refine T_tn ?_
        refine W_if rfl (fun c4 => ?_) (fun c4 => ?_)
        ·
          have hcA := condA c4
          have la : 0 < ya.length := by (revert c4 l12; generalize ya.length = m9; generalize yb.length = k9; intro h9 h8; simp at h8; omega)
          refine wp_seq ?_
          refine W_region ?_
          refine L (D_v (R_move q7) ?_)
          refine L (D_v (R_move q5) ?_)
          refine L (D_v (R_elAddr (i := 0) Try.underlying61 Try.sizeOf26 rfl rfl (ov7_5.ls.via ca).1 (by first | omega | (revert hb; generalize ya.length = m9; generalize yb.length = k9; intro hb; simp at hb; omega) | (revert hb hg; generalize ya.length = m9; generalize yb.length = k9; intro hb hg; simp at hb hg; omega))) ?_)
          refine L (D_v (R_ldL (C := cV) (i := 0) (y := ((ya).getD (0) Vt.zero)) Try.isAgg26 Try.sizeOf26 rfl (ov7_5.ls.via ca) (getD_some (d := Vt.zero) (by first | omega | (revert hb; generalize ya.length = m9; generalize yb.length = k9; intro hb; simp at hb; omega) | (revert hb hg; generalize ya.length = m9; generalize yb.length = k9; intro hb hg; simp at hb hg; omega)))) ?_)
          refine L (D_buildL1 (C := cV) (lo := w.heap.size) (y := ((ya).getD (0) Vt.zero)) Try.underlying61 Try.sizeOf26 Try.zeroValue26 (mapp1 rfl) (by decide) trivial (fun v12_4 w12_4 o12_4 e12_4 => ?_))
          have zv7_5_v12_4 := own_apart ov7_5.1 o12_4.1
          have zv12_4_v7_5 := fun k hk hk2 => zv7_5_v12_4 k hk2 hk
          have zv7_11_v12_4 := own_apart ov7_11.1 o12_4.1
          have zv12_4_v7_11 := fun k hk hk2 => zv7_11_v12_4 k hk2 hk
          have zr7_v12_4 := own_apart or7.1 o12_4.1
          have zv12_4_r7 := fun k hk hk2 => zr7_v12_4 k hk2 hk
          replace o12_4 := o12_4.low hE.size
          replace hE := hE.trans e12_4
          replace ov7_5 := ov7_5.ext e12_4
          replace ov7_11 := ov7_11.ext e12_4
          replace or7 := or7.ext e12_4
          refine L (D_appendL elt26 Try.underlying61 rfl rfl or7 (Nat.le_refl _) o12_4.ls (by (try simp only [List.length_take, List.length_drop, List.length_append, List.length_cons, List.length_nil, List.length_replicate, List.length_set, Nm.b_len, be2_len]); omega) (by (try simp only [List.length_take, List.length_drop, List.length_append, List.length_cons, List.length_nil, List.length_replicate, List.length_set, Nm.b_len, be2_len]); omega) hE.size (fun v12_5 w12_5 o12_5 g12_5 f12_5 sv12_5 => ?_))
          have zv7_5_v12_5 : ∀ k, Value.ownBlock v7_5 = some k → Value.ownBlock v12_5 ≠ some k := fun k hk2 hk => (sv12_5 _ hk).elim (fun h => zv7_5_r7 k hk2 h) (fun h => absurd h (Nat.not_le.2 (own_lt ov7_5.1 hk2)))
          have zv12_5_v7_5 := fun k hk hk2 => zv7_5_v12_5 k hk2 hk
          have zv7_11_v12_5 : ∀ k, Value.ownBlock v7_11 = some k → Value.ownBlock v12_5 ≠ some k := fun k hk2 hk => (sv12_5 _ hk).elim (fun h => zv7_11_r7 k hk2 h) (fun h => absurd h (Nat.not_le.2 (own_lt ov7_11.1 hk2)))
          have zv12_5_v7_11 := fun k hk hk2 => zv7_11_v12_5 k hk2 hk
          have zv12_4_v12_5 : ∀ k, Value.ownBlock v12_4 = some k → Value.ownBlock v12_5 ≠ some k := fun k hk2 hk => (sv12_5 _ hk).elim (fun h => zv12_4_r7 k hk2 h) (fun h => absurd h (Nat.not_le.2 (own_lt o12_4.1 hk2)))
          have zv12_5_v12_4 := fun k hk hk2 => zv12_4_v12_5 k hk2 hk
          replace hE := hE.grown g12_5 (fun k hk => own_ge or7.1 hk)
          replace ov7_5 := ov7_5.grown g12_5 (zv7_5_r7) f12_5
          replace ov7_11 := ov7_11.grown g12_5 (zv7_11_r7) f12_5
          replace o12_4 := o12_4.grown g12_5 (zv12_4_r7) f12_5
          refine L (D_v (R_assign rfl) ?_)
          refine S_nil ?_
          refine T_tn ?_
          refine W_region ?_
          refine L (D_v (R_move q5) ?_)
          refine L (D_v (R_sliceLo (i := 1) Try.underlying61 Try.sizeOf26 rfl rfl (ov7_5.ls.via ca).1 (by (try simp only [List.length_take, List.length_drop, List.length_append, List.length_cons, List.length_nil, List.length_replicate, List.length_set, Nm.b_len, be2_len]); omega)) ?_)
          refine L (D_v (R_assign rfl) ?_)
          refine S_nil ?_
          refine T_bn ?_
          refine T_bn ?_
          refine T_tn ?_
          refine ⟨_, _, ?_, rfl, (cutV va (Cd.sz cV) (1) ((ya).length)), (((ya).drop (1)).take ((ya).length - 1)), vb, yb, _, _, rfl, rfl, q6, rfl, hE, ov7_5, ov7_11, o12_5, zv7_5_v12_5, zv7_11_v12_5, ?_, ?_, ?_, ?_⟩
          all_goals first | omega | exact ca | exact cb | exact ca.cut (by omega) (Nat.le_refl _) | exact cb.cut (by omega) (Nat.le_refl _) | (simp only [List.length_append, List.length_cons, List.length_nil, List.length_take, List.length_drop]; omega) | exact hM.takeA la hcA | exact hM.takeB lb hcB | exact hM.dropA la lb hve
        ·
          obtain ⟨lb, hcA⟩ := condA0 c4
          refine wp_seq ?_
          refine W_draw mixed (by kernel_rfl) ?_
          refine Q_v (fun w hw => R_move q5) ?_
          refine Q_v (fun w hw => R_len Try.underlying61 rfl ((ov7_5.ls.ext hw).via ca).1) ?_
          refine Q_v (fun w hw => R_eqlI rfl rfl) ?_
          refine Q_v (fun w hw => R_move rfl) ?_
          refine Q_g1 rfl rfl (fun hb w hw => R_move q6) ?_
          refine Q_g1 rfl rfl (fun hb w hw => R_elAddr (i := 0) Try.underlying61 Try.sizeOf26 (cgE hb) rfl ((ov7_11.ls.ext hw).via cb).1 (by first | omega | (revert hb; generalize ya.length = m9; generalize yb.length = k9; intro hb; simp at hb; omega) | (revert hb hg; generalize ya.length = m9; generalize yb.length = k9; intro hb hg; simp at hb hg; omega))) ?_
          refine Q_g1 rfl rfl (fun hb w hw => R_ldL (C := cV) (i := 0) (y := ((yb).getD (0) Vt.zero)) Try.isAgg26 Try.sizeOf26 (cgE hb) ((ov7_11.ls.ext hw).via cb) (getD_some (d := Vt.zero) (by first | omega | (revert hb; generalize ya.length = m9; generalize yb.length = k9; intro hb; simp at hb; omega) | (revert hb hg; generalize ya.length = m9; generalize yb.length = k9; intro hb hg; simp at hb hg; omega)))) ?_
          refine Q_g1 rfl rfl (fun hb w hw => R_move q5) ?_
          refine Q_g1 rfl rfl (fun hb w hw => R_elAddr (i := 0) Try.underlying61 Try.sizeOf26 (cgE hb) rfl ((ov7_5.ls.ext hw).via ca).1 (by first | omega | (revert hb; generalize ya.length = m9; generalize yb.length = k9; intro hb; simp at hb; omega) | (revert hb hg; generalize ya.length = m9; generalize yb.length = k9; intro hb hg; simp at hb hg; omega))) ?_
          refine Q_g1 rfl rfl (fun hb w hw => R_ldL (C := cV) (i := 0) (y := ((ya).getD (0) Vt.zero)) Try.isAgg26 Try.sizeOf26 (cgE hb) ((ov7_5.ls.ext hw).via ca) (getD_some (d := Vt.zero) (by first | omega | (revert hb; generalize ya.length = m9; generalize yb.length = k9; intro hb; simp at hb; omega) | (revert hb hg; generalize ya.length = m9; generalize yb.length = k9; intro hb hg; simp at hb hg; omega)))) ?_
          refine Q_gc1 rfl rfl (fun hb w hw => R_callF Try.call34 (mapv2 (cgE hb) (cgE hb)) rfl) (fun hb w hw => c34 (((yb).getD (0) Vt.zero)) (((ya).getD (0) Vt.zero)) _ ) ?_
          refine Q_v (fun w hw => R_pickO rfl rfl rfl) ?_
          refine Q_v (fun w hw => R_assign rfl) ?_
          refine Q_nil (fun w12_99 e12_99 => ?_)
          replace hE := hE.trans e12_99
          replace ov7_5 := ov7_5.ext e12_99
          replace ov7_11 := ov7_11.ext e12_99
          replace or7 := or7.ext e12_99
          refine T_tn ?_
          refine W_if rfl (fun c5 => ?_) (fun c5 => ?_)
          ·
            have hcB := condB c5
            refine wp_seq ?_
            refine W_region ?_
            refine L (D_v (R_move q7) ?_)
            refine L (D_v (R_move q6) ?_)
            refine L (D_v (R_elAddr (i := 0) Try.underlying61 Try.sizeOf26 rfl rfl (ov7_11.ls.via cb).1 (by first | omega | (revert hb; generalize ya.length = m9; generalize yb.length = k9; intro hb; simp at hb; omega) | (revert hb hg; generalize ya.length = m9; generalize yb.length = k9; intro hb hg; simp at hb hg; omega))) ?_)
            refine L (D_v (R_ldL (C := cV) (i := 0) (y := ((yb).getD (0) Vt.zero)) Try.isAgg26 Try.sizeOf26 rfl (ov7_11.ls.via cb) (getD_some (d := Vt.zero) (by first | omega | (revert hb; generalize ya.length = m9; generalize yb.length = k9; intro hb; simp at hb; omega) | (revert hb hg; generalize ya.length = m9; generalize yb.length = k9; intro hb hg; simp at hb hg; omega)))) ?_)
            refine L (D_buildL1 (C := cV) (lo := w.heap.size) (y := ((yb).getD (0) Vt.zero)) Try.underlying61 Try.sizeOf26 Try.zeroValue26 (mapp1 rfl) (by decide) trivial (fun v13_4 w13_4 o13_4 e13_4 => ?_))
            have zv7_5_v13_4 := own_apart ov7_5.1 o13_4.1
            have zv13_4_v7_5 := fun k hk hk2 => zv7_5_v13_4 k hk2 hk
            have zv7_11_v13_4 := own_apart ov7_11.1 o13_4.1
            have zv13_4_v7_11 := fun k hk hk2 => zv7_11_v13_4 k hk2 hk
            have zr7_v13_4 := own_apart or7.1 o13_4.1
            have zv13_4_r7 := fun k hk hk2 => zr7_v13_4 k hk2 hk
            replace o13_4 := o13_4.low hE.size
            replace hE := hE.trans e13_4
            replace ov7_5 := ov7_5.ext e13_4
            replace ov7_11 := ov7_11.ext e13_4
            replace or7 := or7.ext e13_4
            refine L (D_appendL elt26 Try.underlying61 rfl rfl or7 (Nat.le_refl _) o13_4.ls (by (try simp only [List.length_take, List.length_drop, List.length_append, List.length_cons, List.length_nil, List.length_replicate, List.length_set, Nm.b_len, be2_len]); omega) (by (try simp only [List.length_take, List.length_drop, List.length_append, List.length_cons, List.length_nil, List.length_replicate, List.length_set, Nm.b_len, be2_len]); omega) hE.size (fun v13_5 w13_5 o13_5 g13_5 f13_5 sv13_5 => ?_))
            have zv7_5_v13_5 : ∀ k, Value.ownBlock v7_5 = some k → Value.ownBlock v13_5 ≠ some k := fun k hk2 hk => (sv13_5 _ hk).elim (fun h => zv7_5_r7 k hk2 h) (fun h => absurd h (Nat.not_le.2 (own_lt ov7_5.1 hk2)))
            have zv13_5_v7_5 := fun k hk hk2 => zv7_5_v13_5 k hk2 hk
            have zv7_11_v13_5 : ∀ k, Value.ownBlock v7_11 = some k → Value.ownBlock v13_5 ≠ some k := fun k hk2 hk => (sv13_5 _ hk).elim (fun h => zv7_11_r7 k hk2 h) (fun h => absurd h (Nat.not_le.2 (own_lt ov7_11.1 hk2)))
            have zv13_5_v7_11 := fun k hk hk2 => zv7_11_v13_5 k hk2 hk
            have zv13_4_v13_5 : ∀ k, Value.ownBlock v13_4 = some k → Value.ownBlock v13_5 ≠ some k := fun k hk2 hk => (sv13_5 _ hk).elim (fun h => zv13_4_r7 k hk2 h) (fun h => absurd h (Nat.not_le.2 (own_lt o13_4.1 hk2)))
            have zv13_5_v13_4 := fun k hk hk2 => zv13_4_v13_5 k hk2 hk
            replace hE := hE.grown g13_5 (fun k hk => own_ge or7.1 hk)
            replace ov7_5 := ov7_5.grown g13_5 (zv7_5_r7) f13_5
            replace ov7_11 := ov7_11.grown g13_5 (zv7_11_r7) f13_5
            replace o13_4 := o13_4.grown g13_5 (zv13_4_r7) f13_5
            refine L (D_v (R_assign rfl) ?_)
            refine S_nil ?_
            refine T_tn ?_
            refine W_region ?_
            refine L (D_v (R_move q6) ?_)
            refine L (D_v (R_sliceLo (i := 1) Try.underlying61 Try.sizeOf26 rfl rfl (ov7_11.ls.via cb).1 (by (try simp only [List.length_take, List.length_drop, List.length_append, List.length_cons, List.length_nil, List.length_replicate, List.length_set, Nm.b_len, be2_len]); omega)) ?_)
            refine L (D_v (R_assign rfl) ?_)
            refine S_nil ?_
            refine T_bn ?_
            refine T_bn ?_
            refine T_tn ?_
            refine ⟨_, _, ?_, rfl, va, ya, (cutV vb (Cd.sz cV) (1) ((yb).length)), (((yb).drop (1)).take ((yb).length - 1)), _, _, rfl, q5, rfl, rfl, hE, ov7_5, ov7_11, o13_5, zv7_5_v13_5, zv7_11_v13_5, ?_, ?_, ?_, ?_⟩
            all_goals first | omega | exact ca | exact cb | exact ca.cut (by omega) (Nat.le_refl _) | exact cb.cut (by omega) (Nat.le_refl _) | (simp only [List.length_append, List.length_cons, List.length_nil, List.length_take, List.length_drop]; omega) | exact hM.takeA la hcA | exact hM.takeB lb hcB | exact hM.dropA la lb hve
          ·
            obtain ⟨la, hcB⟩ := condB0 c5
            have hve := vote_eq (hcA la) hcB
            refine W_region ?_
            refine L (D_v (R_move q5) ?_)
            refine L (D_v (R_sliceLo (i := 1) Try.underlying61 Try.sizeOf26 rfl rfl (ov7_5.ls.via ca).1 (by (try simp only [List.length_take, List.length_drop, List.length_append, List.length_cons, List.length_nil, List.length_replicate, List.length_set, Nm.b_len, be2_len]); omega)) ?_)
            refine L (D_v (R_assign rfl) ?_)
            refine S_nil ?_
            refine T_bn ?_
            refine T_bn ?_
            refine T_tn ?_
            refine ⟨_, _, ?_, rfl, (cutV va (Cd.sz cV) (1) ((ya).length)), (((ya).drop (1)).take ((ya).length - 1)), vb, yb, _, _, rfl, rfl, q6, q7, hE, ov7_5, ov7_11, or7, zv7_5_r7, zv7_11_r7, ?_, ?_, ?_, ?_⟩
            all_goals first | omega | exact ca | exact cb | exact ca.cut (by omega) (Nat.le_refl _) | exact cb.cut (by omega) (Nat.le_refl _) | (simp only [List.length_append, List.length_cons, List.length_nil, List.length_take, List.length_drop]; omega) | exact hM.takeA la hcA | exact hM.takeB lb hcB | exact hM.dropA la lb hve
      ·
        have l00 : ya.length = 0 ∧ yb.length = 0 := by (revert c3; generalize ya.length = m9; generalize yb.length = k9; intro h8; simp at h8; omega)
        refine wp_exit ?_
        refine T_te ?_
        refine T_te ?_
        refine T_be ?_
        refine T_tn ?_
        refine wp_seq ?_
        refine W_region ?_
        refine L (D_v (R_move q7) ?_)
        refine L (D_v (R_assign rfl) ?_)
        refine S_nil ?_
        refine T_tn ?_
        refine wp_ret ?_
        refine ret1 (v := r7) rfl rfl ⟨_, rfl, hE, ?_⟩
        first | exact ⟨_, or7, by simp, by simpa using hall, fun x => by simp⟩ | exact ⟨_, or7, by first | omega | (simp only [List.length_append, List.length_nil] at *; omega), (hM.fin l00.1 l00.2).1, halvesV cm7_5 cm7_11 (hM.fin l00.1 l00.2).2⟩
theorem c100f (F : Nat) : ∀ (v : Value) (xs : List Vt) (w : World), xs.length < F → xs.length ≤ 1000000 → Ls cV w.heap.size w v xs → Calls Try.prog 100 [v].toArray w (RetE w fun r w' => ∃ ys, Ow cV w.heap.size w.heap.size w' r ys ∧ ys.length ≤ xs.length ∧ ascV ys ∧ ∀ x, x ∈ ys ↔ x ∈ xs) := by
  induction F with
  | zero => exact fun v xs w hF => absurd hF (Nat.not_lt_zero _)
  | succ F ih => exact fun v xs w hF => c100s F ih v xs w hF
theorem c100 (v : Value) (xs : List Vt) (w : World) (hn : xs.length ≤ 1000000) (h : Ls cV w.heap.size w v xs) : Calls Try.prog 100 [v].toArray w (RetE w fun r w' => ∃ ys, Ow cV w.heap.size w.heap.size w' r ys ∧ ys.length ≤ xs.length ∧ ascV ys ∧ ∀ x, x ∈ ys ↔ x ∈ xs) := c100f (xs.length + 1) v xs w (Nat.lt_succ_self _) hn h
set_option maxRecDepth 4000 in
set_option maxHeartbeats 1000000 in
theorem c62 (x y : Sg) (w : World) (hx : x.okf w.heap.size w) (hy : y.okf w.heap.size w) : Calls Try.prog 62 [x.v, y.v].toArray w (Ret w (.bool (lessP x.p y.p))) := by
  refine enter Try.func62 Try.ntmps62 rfl rfl ?_
  have hE := Ext.refl w
  refine wp_seq ?_
  refine W_region ?_
  refine L (D_box (c := (x).l) (rfl) (fun aB1_0 w1_0 e1_0 gB1_0 hB1_0 => ?_))
  have lB1_0 := Nat.le_trans hE.size gB1_0
  replace hE := hE.trans e1_0
  refine L (D_box (c := (y).l) (rfl) (fun aB1_1 w1_1 e1_1 gB1_1 hB1_1 => ?_))
  have lB1_1 := Nat.le_trans hE.size gB1_1
  have nB1_0B1_1 := hB1_0.ne gB1_1
  replace hE := hE.trans e1_1
  replace hB1_0 := hB1_0.ext e1_1
  refine L (D_v (R_assign rfl) ?_)
  refine S_nil ?_
  refine T_tn ?_
  refine wp_seq ?_
  refine wp_seq ?_
  refine W_region ?_
  refine L (D_v (R_fieldAddr Try.runUnderlying53 rfl Try.sizeOf26 rfl) ?_)
  refine L (D_v (R_loadA (c := ((x).vote).l) Try.isAgg26 Try.sizeOf26 hB1_0 rfl rfl rfl) ?_)
  refine L (D_v (R_fieldAddr Try.runUnderlying53 rfl Try.sizeOf26 rfl) ?_)
  refine L (D_v (R_loadA (c := ((y).vote).l) Try.isAgg26 Try.sizeOf26 hB1_1 rfl rfl rfl) ?_)
  refine L (D_v (R_neqA Try.eqGuardType26 (eq26 ((x).vote) ((y).vote) _) rfl rfl) ?_)
  refine S_nil ?_
  refine T_tn ?_
  refine W_if rfl (fun c1 => ?_) (fun c1 => ?_)
  ·
    have hne : (x).p.1 ≠ (y).p.1 := (show ¬ (x).vote = (y).vote by simpa using c1)
    refine wp_seq ?_
    refine W_region ?_
    refine L (D_v (R_fieldAddr Try.runUnderlying53 rfl Try.sizeOf26 rfl) ?_)
    refine L (D_v (R_loadA (c := ((x).vote).l) Try.isAgg26 Try.sizeOf26 hB1_0 rfl rfl rfl) ?_)
    refine L (D_v (R_fieldAddr Try.runUnderlying53 rfl Try.sizeOf26 rfl) ?_)
    refine L (D_v (R_loadA (c := ((y).vote).l) Try.isAgg26 Try.sizeOf26 hB1_1 rfl rfl rfl) ?_)
    refine L (D_call (R_callF Try.call34 rfl rfl) (c34 ((x).vote) ((y).vote) _ ) (fun w3_4 e3_4 => ?_))
    replace hE := hE.trans e3_4
    replace hB1_0 := hB1_0.ext e3_4
    replace hB1_1 := hB1_1.ext e3_4
    refine L (D_v (R_assign rfl) ?_)
    refine S_nil ?_
    refine T_tn ?_
    refine wp_ret ?_
    refine T_tr ?_
    refine ret1 (v := .bool _) rfl rfl ⟨?_, hE⟩
    rw [lessP_ne hne]; rfl
  ·
    have hne : (x).p.1 = (y).p.1 := (show (x).vote = (y).vote by simpa using c1)
    refine wp_skip ?_
    refine T_tn ?_
    refine wp_seq ?_
    refine W_region ?_
    refine L (D_v (R_fieldAddr Try.runUnderlying53 rfl Try.sizeOf31 rfl) ?_)
    refine L (D_v (R_load Try.isAgg31 hB1_0 rfl rfl) ?_)
    refine L (D_v (R_str (b := (x).sig) rfl (hx.fb (Fb.ext hE)).bs) ?_)
    refine L (D_v (R_fieldAddr Try.runUnderlying53 rfl Try.sizeOf31 rfl) ?_)
    refine L (D_v (R_load Try.isAgg31 hB1_1 rfl rfl) ?_)
    refine L (D_v (R_str (b := (y).sig) rfl (hy.fb (Fb.ext hE)).bs) ?_)
    refine L (D_v (R_lssStr (a := (x).sig) (b := (y).sig) rfl rfl) ?_)
    refine L (D_v (R_assign rfl) ?_)
    refine S_nil ?_
    refine T_tn ?_
    refine wp_ret ?_
    refine ret1 (v := .bool _) rfl rfl ⟨?_, hE⟩
    rw [lessP_eq hne]; exact congrArg (fun z => Ending.returned (Value.bool z)) (sLt_ltB _ _)
set_option maxRecDepth 4000 in
set_option maxHeartbeats 1000000 in
theorem c63 (v : Value) (xs : List Sg) (w : World) (hn : xs.length ≤ 1000000) (h : Ls cS w.heap.size w v xs) (hsl : ∀ x ∈ xs, x.sig.length ≤ 140737488355328) : Calls Try.prog 63 [v].toArray w (RetE w fun r w' => ∃ vs, Ow cV w.heap.size w.heap.size w' r vs ∧ vs.length ≤ xs.length ∧ ascV vs ∧ ∀ v, v ∈ vs ↔ v ∈ xs.map Sg.vote) := by
  refine enter Try.func63 Try.ntmps63 rfl rfl ?_
  have hE := Ext.refl w
  refine wp_seq ?_
  refine W_region ?_
  refine L (D_v (R_assign rfl) ?_)
  refine S_nil ?_
  refine T_tn ?_
  refine wp_seq ?_
  refine W_region ?_
  refine L (D_v (R_assign rfl) ?_)
  refine S_nil ?_
  refine T_tn ?_
  refine wp_seq ?_
  refine wp_seq ?_
  refine W_region ?_
  refine L (D_v (R_move rfl) ?_)
  refine L (D_callE (R_callF Try.call57 rfl rfl) (c57 w.heap.size v (xs) _ (Nat.le_trans (Nat.le_refl _) hE.size) (by (try simp only [List.length_take, List.length_drop, List.length_append, List.length_cons, List.length_nil, List.length_replicate, List.length_set, Nm.b_len, be2_len]); omega) (h.ext hE) hsl) (fun v3_1 w3_1 e3_1 p3_1 => ?_))
  obtain ⟨y3_1, o3_1, zz3_1, za3_1, zb3_1, zc3_1, zd3_1⟩ := p3_1
  replace o3_1 := o3_1.low hE.size
  replace hE := hE.trans e3_1
  have hc := can_of zc3_1 zb3_1 zd3_1
  have hyl : y3_1.length ≤ xs.length := by have h9 := ddn_len zz3_1 zz3_1.length; rw [← zd3_1] at h9; exact Nat.le_trans h9 (Nat.le_of_eq za3_1)
  refine L (D_v (R_len Try.underlying46 rfl o3_1.ls.1) ?_)
  refine L (D_v (R_move rfl) ?_)
  refine S_nil ?_
  refine T_tn ?_
  refine wp_block ?_
  refine W_loop (fun mz g W => ∃ (i : Nat) (vs : List Vt) (r3 : Value), mz = y3_1.length - i ∧ g 3 = r3 ∧ g 7 = v3_1 ∧ g 8 = i64 (((y3_1).length : Nat) : Int) ∧ g 9 = i64 ((i : Nat) : Int) ∧ Ext w W ∧ Ow cS w.heap.size w.heap.size W v3_1 y3_1 ∧ Ow cV w.heap.size w.heap.size W r3 vs ∧ i ≤ y3_1.length ∧ vs.length = i ∧ vs = (y3_1.take i).map Sg.vote) ⟨0, [], _, rfl, rfl, rfl, rfl, rfl, hE, o3_1, (Ow.nil cV w.heap.size _ _), (Nat.zero_le _), (by simp), (by simp)⟩ ?_
  rintro mz f4 w4l ⟨i, vs, r3, hm, q3, q7, q8, q9, hE, ov3_1, or3, hi, hvl, hvs⟩
  refine wp_seq ?_
  refine W_region ?_
  refine L (D_v (R_lssI q9 q8) ?_)
  refine S_nil ?_
  refine T_tn ?_
  refine wp_seq ?_
  refine W_if rfl (fun c1 => ?_) (fun c1 => ?_)
  ·
    have lk : i < y3_1.length := by have h9 := of_decide_eq_true c1; omega
    refine wp_skip ?_
    refine T_tn ?_
    refine wp_seq ?_
    refine wp_block ?_
    refine wp_seq ?_
    refine W_region ?_
    refine L (D_v (R_elAddr (i := i) Try.underlying46 Try.sizeOf53 q7 q9 ov3_1.ls.1 (by (try simp only [List.length_take, List.length_drop, List.length_append, List.length_cons, List.length_nil, List.length_replicate, List.length_set, Nm.b_len, be2_len]); omega)) ?_)
    have k6_1 := (ov3_1.ls).get (i := i) (getD_some (d := Sg.zero) (by (try simp only [List.length_take, List.length_drop, List.length_append, List.length_cons, List.length_nil, List.length_replicate, List.length_set, Nm.b_len, be2_len]); omega))
    refine L (D_v (R_ldL (C := cS) (i := i) (y := ((y3_1).getD (i) Sg.zero)) Try.isAgg53 Try.sizeOf53 rfl ov3_1.ls (getD_some (d := Sg.zero) (by (try simp only [List.length_take, List.length_drop, List.length_append, List.length_cons, List.length_nil, List.length_replicate, List.length_set, Nm.b_len, be2_len]); omega))) ?_)
    refine L (D_alloc (c := (Sg.zero).l) Try.zeroValue53 rfl (fun aB6_2 w6_2 e6_2 gB6_2 hB6_2 => ?_))
    have lB6_2 := Nat.le_trans hE.size gB6_2
    have yv3_1_B6_2 : Value.ownBlock v3_1 ≠ some aB6_2 := fun hk => absurd (own_lt ov3_1.1 hk) (Nat.not_lt.2 gB6_2)
    replace hE := hE.trans e6_2
    replace ov3_1 := ov3_1.ext e6_2
    replace or3 := or3.ext e6_2
    replace k6_1 := k6_1.fb (Fb.ext e6_2)
    have xov3_1 := yv3_1_B6_2
    have xor3 := own_neB or3.1 hB6_2 rfl
    have h0 := hB6_2
    refine L (D_storeA Try.sizeOf53 hB6_2 rfl rfl rfl rfl rfl (l' := (((y3_1).getD (i) Sg.zero)).l) rfl (fun w6_3 k6_3 hB6_2 => ?_))
    have f6_3 := Fb.kp k6_3 (Nat.le_trans (Nat.le_refl _) lB6_2) (Blk.notB h0 rfl)
    replace hE := hE.kp k6_3 lB6_2
    replace ov3_1 := ov3_1.kp k6_3 xov3_1 f6_3
    replace or3 := or3.kp k6_3 xor3 f6_3
    replace k6_1 := k6_1.fb f6_3
    refine S_nil ?_
    refine T_tn ?_
    refine W_region ?_
    refine L (D_v (R_move q3) ?_)
    refine L (D_v (R_fieldAddr Try.runUnderlying53 rfl Try.sizeOf26 rfl) ?_)
    refine L (D_v (R_loadA (c := ((((y3_1).getD (i) Sg.zero)).vote).l) Try.isAgg26 Try.sizeOf26 hB6_2 rfl rfl rfl) ?_)
    refine L (D_buildL1 (C := cV) (lo := w.heap.size) (y := (((y3_1).getD (i) Sg.zero)).vote) Try.underlying61 Try.sizeOf26 Try.zeroValue26 (mapp1 rfl) (by decide) trivial (fun v7_3 w7_3 o7_3 e7_3 => ?_))
    have zr3_v7_3 := own_apart or3.1 o7_3.1
    have zv7_3_r3 := fun k hk hk2 => zr3_v7_3 k hk2 hk
    replace o7_3 := o7_3.low hE.size
    replace hE := hE.trans e7_3
    replace hB6_2 := hB6_2.ext e7_3
    replace ov3_1 := ov3_1.ext e7_3
    replace or3 := or3.ext e7_3
    replace k6_1 := k6_1.fb (Fb.ext e7_3)
    refine L (D_appendL elt26 Try.underlying61 rfl rfl or3 (Nat.le_refl _) o7_3.ls (by (try simp only [List.length_take, List.length_drop, List.length_append, List.length_cons, List.length_nil, List.length_replicate, List.length_set, Nm.b_len, be2_len]); omega) (by (try simp only [List.length_take, List.length_drop, List.length_append, List.length_cons, List.length_nil, List.length_replicate, List.length_set, Nm.b_len, be2_len]); omega) hE.size (fun v7_4 w7_4 o7_4 g7_4 f7_4 sv7_4 => ?_))
    have zv7_3_v7_4 : ∀ k, Value.ownBlock v7_3 = some k → Value.ownBlock v7_4 ≠ some k := fun k hk2 hk => (sv7_4 _ hk).elim (fun h => zv7_3_r3 k hk2 h) (fun h => absurd h (Nat.not_le.2 (own_lt o7_3.1 hk2)))
    have zv7_4_v7_3 := fun k hk hk2 => zv7_3_v7_4 k hk2 hk
    replace hE := hE.grown g7_4 (fun k hk => own_ge or3.1 hk)
    replace hB6_2 := hB6_2.grown g7_4 (own_neB or3.1 hB6_2 rfl)
    replace ov3_1 := ov3_1.grown g7_4 (own_ne ov3_1.1 or3.1 rfl) f7_4
    replace o7_3 := o7_3.grown g7_4 (zv7_3_r3) f7_4
    replace k6_1 := k6_1.fb f7_4
    refine L (D_v (R_assign rfl) ?_)
    refine S_nil ?_
    refine T_bn ?_
    refine T_tn ?_
    refine W_region ?_
    refine L (D_v (R_addN (m := i) (j := 1) q9 rfl (by (try simp only [List.length_take, List.length_drop, List.length_append, List.length_cons, List.length_nil, List.length_replicate, List.length_set, Nm.b_len, be2_len]); omega)) ?_)
    refine L (D_v (R_move rfl) ?_)
    refine S_nil ?_
    refine T_tn ?_
    refine ⟨_, _, ?_, rfl, i + 1, _, _, rfl, rfl, q7, q8, rfl, hE, ov3_1, o7_4, ?_, ?_, ?_⟩
    all_goals first | omega | (simp only [List.length_append, List.length_cons, List.length_nil]; omega) | exact votes_next hvs lk
  ·
    obtain rfl : i = y3_1.length := by have h9 := of_decide_eq_false c1; omega
    rw [List.take_of_length_le (Nat.le_refl _)] at hvs
    refine wp_exit ?_
    refine T_te ?_
    refine T_te ?_
    refine T_be ?_
    refine T_tn ?_
    refine wp_seq ?_
    refine W_region ?_
    refine L (D_v (R_move q3) ?_)
    refine L (D_v (R_assign rfl) ?_)
    refine S_nil ?_
    refine T_tn ?_
    refine wp_ret ?_
    refine ret1 (v := r3) rfl rfl ⟨_, rfl, hE, ?_⟩
    exact ⟨_, or3, by omega, by rw [hvs]; exact (can_votes hc).1, by rw [hvs]; exact (can_votes hc).2⟩
set_option maxRecDepth 4000 in
set_option maxHeartbeats 1000000 in
theorem c64 (v : Value) (xs : List Sg) (w : World) (hn : xs.length ≤ 1000000) (h : Ls cS w.heap.size w v xs) : Calls Try.prog 64 [v].toArray w (RetE w fun r w' => ∃ vs, Ow cV w.heap.size w.heap.size w' r vs ∧ vs.length ≤ xs.length ∧ ascV vs ∧ ∀ v, v ∈ vs ↔ v ∈ xs.map Sg.vote) := by
  refine enter Try.func64 Try.ntmps64 rfl rfl ?_
  have hE := Ext.refl w
  refine wp_seq ?_
  refine W_region ?_
  refine L (D_v (R_assign rfl) ?_)
  refine S_nil ?_
  refine T_tn ?_
  refine wp_seq ?_
  refine W_region ?_
  refine L (D_v (R_assign rfl) ?_)
  refine S_nil ?_
  refine T_tn ?_
  refine wp_seq ?_
  refine wp_seq ?_
  refine W_region ?_
  refine L (D_v (R_assign rfl) ?_)
  refine S_nil ?_
  refine T_tn ?_
  refine wp_block ?_
  refine W_loop (fun mz g W => ∃ (i : Nat) (vs : List Vt) (r3 : Value), mz = xs.length - i ∧ g 0 = v ∧ g 3 = r3 ∧ g 4 = i64 ((i : Nat) : Int) ∧ Ext w W ∧ Ow cV w.heap.size w.heap.size W r3 vs ∧ i ≤ xs.length ∧ vs.length = i ∧ vs = (xs.take i).map Sg.vote) ⟨0, [], _, rfl, rfl, rfl, rfl, hE, (Ow.nil cV w.heap.size _ _), (Nat.zero_le _), (by simp), (by simp)⟩ ?_
  rintro mz f4 w4l ⟨i, vs, r3, hm, q0, q3, q4, hE, or3, hi, hvl, hvs⟩
  refine wp_seq ?_
  refine wp_seq ?_
  refine W_region ?_
  refine L (D_v (R_move q4) ?_)
  refine L (D_v (R_move q0) ?_)
  refine L (D_v (R_len Try.underlying46 rfl (h.ext hE).1) ?_)
  refine L (D_v (R_lssI rfl rfl) ?_)
  refine S_nil ?_
  refine T_tn ?_
  refine W_if rfl (fun c1 => ?_) (fun c1 => ?_)
  ·
    have lk : i < xs.length := by have h9 := of_decide_eq_true c1; omega
    refine wp_skip ?_
    refine T_tn ?_
    refine wp_seq ?_
    refine wp_block ?_
    refine W_region ?_
    refine L (D_v (R_move q3) ?_)
    refine L (D_v (R_move q0) ?_)
    refine L (D_v (R_move q4) ?_)
    refine L (D_v (R_elAddr (i := i) Try.underlying46 Try.sizeOf53 rfl rfl (h.ext hE).1 (by (try simp only [List.length_take, List.length_drop, List.length_append, List.length_cons, List.length_nil, List.length_replicate, List.length_set, Nm.b_len, be2_len]); omega)) ?_)
    refine L (D_v (R_fieldEl (k := i * 23) Try.runUnderlying53 rfl Try.sizeOf26 (h.ext hE).1 (lel_ltz (C := cS) (s := 23) rfl (by decide) (getD_some (d := Sg.zero) (by (try simp only [List.length_take, List.length_drop, List.length_append, List.length_cons, List.length_nil, List.length_replicate, List.length_set, Nm.b_len, be2_len]); omega))) rfl) ?_)
    refine L (D_v (R_ldP (C := cS) (i := i) (k := 0) (y := ((xs).getD (i) Sg.zero)) (c := ((((xs).getD (i) Sg.zero)).vote).l) Try.isAgg26 Try.sizeOf26 rfl (h.ext hE) (getD_some (d := Sg.zero) (by (try simp only [List.length_take, List.length_drop, List.length_append, List.length_cons, List.length_nil, List.length_replicate, List.length_set, Nm.b_len, be2_len]); omega)) (by decide) (by decide) rfl) ?_)
    refine L (D_buildL1 (C := cV) (lo := w.heap.size) (y := (((xs).getD (i) Sg.zero)).vote) Try.underlying61 Try.sizeOf26 Try.zeroValue26 (mapp1 rfl) (by decide) trivial (fun v6_6 w6_6 o6_6 e6_6 => ?_))
    have zr3_v6_6 := own_apart or3.1 o6_6.1
    have zv6_6_r3 := fun k hk hk2 => zr3_v6_6 k hk2 hk
    replace o6_6 := o6_6.low hE.size
    replace hE := hE.trans e6_6
    replace or3 := or3.ext e6_6
    refine L (D_appendL elt26 Try.underlying61 rfl rfl or3 (Nat.le_refl _) o6_6.ls (by (try simp only [List.length_take, List.length_drop, List.length_append, List.length_cons, List.length_nil, List.length_replicate, List.length_set, Nm.b_len, be2_len]); omega) (by (try simp only [List.length_take, List.length_drop, List.length_append, List.length_cons, List.length_nil, List.length_replicate, List.length_set, Nm.b_len, be2_len]); omega) hE.size (fun v6_7 w6_7 o6_7 g6_7 f6_7 sv6_7 => ?_))
    have zv6_6_v6_7 : ∀ k, Value.ownBlock v6_6 = some k → Value.ownBlock v6_7 ≠ some k := fun k hk2 hk => (sv6_7 _ hk).elim (fun h => zv6_6_r3 k hk2 h) (fun h => absurd h (Nat.not_le.2 (own_lt o6_6.1 hk2)))
    have zv6_7_v6_6 := fun k hk hk2 => zv6_6_v6_7 k hk2 hk
    replace hE := hE.grown g6_7 (fun k hk => own_ge or3.1 hk)
    replace o6_6 := o6_6.grown g6_7 (zv6_6_r3) f6_7
    refine L (D_v (R_assign rfl) ?_)
    refine S_nil ?_
    refine T_bn ?_
    refine T_tn ?_
    refine W_region ?_
    refine L (D_v (R_move q4) ?_)
    refine L (D_v (R_addN (m := i) (j := 1) rfl rfl (by (try simp only [List.length_take, List.length_drop, List.length_append, List.length_cons, List.length_nil, List.length_replicate, List.length_set, Nm.b_len, be2_len]); omega)) ?_)
    refine L (D_v (R_assign rfl) ?_)
    refine S_nil ?_
    refine T_tn ?_
    refine ⟨_, _, ?_, rfl, i + 1, _, _, rfl, q0, rfl, rfl, hE, o6_7, ?_, ?_, ?_⟩
    all_goals first | omega | (simp only [List.length_append, List.length_cons, List.length_nil]; omega) | exact votes_next hvs lk
  ·
    obtain rfl : i = xs.length := by have h9 := of_decide_eq_false c1; omega
    rw [List.take_of_length_le (Nat.le_refl _)] at hvs
    refine wp_exit ?_
    refine T_te ?_
    refine T_te ?_
    refine T_be ?_
    refine T_tn ?_
    refine wp_seq ?_
    refine W_region ?_
    refine L (D_v (R_move q3) ?_)
    refine L (D_callE (R_callF Try.call100 rfl rfl) (c100 r3 (vs) _ (by omega) (or3.ls.lev fun _ _ _ => trivial)) (fun v6_1 w6_1 e6_1 p6_1 => ?_))
    obtain ⟨y6_1, o6_1, n6_1, cn6_1, cm6_1⟩ := p6_1
    have zr3_v6_1 := own_apart or3.1 o6_1.1
    have zv6_1_r3 := fun k hk hk2 => zr3_v6_1 k hk2 hk
    replace o6_1 := o6_1.low hE.size
    replace o6_1 := Ow.lev (lo' := w.heap.size) o6_1 (fun _ _ _ => trivial)
    replace hE := hE.trans e6_1
    replace or3 := or3.ext e6_1
    refine L (D_v (R_assign rfl) ?_)
    refine S_nil ?_
    refine T_tn ?_
    refine wp_ret ?_
    refine ret1 (v := v6_1) rfl rfl ⟨_, rfl, hE, ?_⟩
    exact ⟨_, o6_1, by omega, cn6_1, by rw [← hvs]; exact cm6_1⟩
end Go.Proofs.Yteeopgpgbdhmhaa
namespace Go.Proofs.Yteeopgpgbdhmhaa
open Go.RowKit
set_option linter.unusedVariables false
set_option linter.unusedSimpArgs false
attribute [local irreducible] wpList wpO H wpQuiet wpStill Code.wp Exit.then Exit.inBlock bodyPost Code.rounds Calls valid lessV hless num between
set_option maxRecDepth 4000 in
set_option maxHeartbeats 4000000 in
theorem c17 (v : Value) (xs : List Sg) (w : World) (hz : SsInz w v xs) : Calls Try.prog 17 [v].toArray w (Ret w (.bool true)) := by
  refine enter Try.func17 Try.ntmps17 rfl rfl ?_
  have hE := Ext.refl w
  have h := hz.1.1
  obtain ⟨X, h2, hX2, hsx⟩ := cut200_X hz
  refine wp_seq ?_
  refine W_region ?_
  refine L (D_v (R_assign rfl) ?_)
  refine S_nil ?_
  refine T_tn ?_
  refine wp_seq ?_
  refine wp_seq ?_
  refine W_region ?_
  refine L (D_v (R_move rfl) ?_)
  refine L (D_v (R_len Try.underlying46 rfl (h.ext hE).1) ?_)
  refine L (D_v (R_gtrI rfl rfl) ?_)
  refine S_nil ?_
  refine T_tn ?_
  refine W_cut (R := fun g W => (g 0 = (cut200 v xs.length)) ∧ Ext w W) ?_ ?_
  ·
    refine W_if rfl (fun c1 => ?_) (fun c1 => ?_)
    ·
      have lk : 200 < xs.length := by simp at c1; omega
      refine W_region ?_
      refine L (D_v (R_move rfl) ?_)
      refine L (D_v (R_sliceHi (j := 200) Try.underlying46 Try.sizeOf53 rfl rfl (h.ext hE).1 (by (try simp only [List.length_take, List.length_drop, List.length_append, List.length_cons, List.length_nil, List.length_replicate, List.length_set, Nm.b_len, be2_len]); omega)) ?_)
      refine L (D_v (R_assign rfl) ?_)
      refine S_nil ?_
      exact ⟨rfl, _, rfl, (cut200_p lk), hE⟩
    ·
      have lk : ¬ 200 < xs.length := by simp at c1; omega
      refine wp_skip ?_
      exact ⟨rfl, _, rfl, (cut200_n lk), hE⟩
  rintro fk3 w3k ⟨q0, hE⟩
  refine T_tn ?_
  refine wp_seq ?_
  refine wp_seq ?_
  refine W_region ?_
  refine L (D_v (R_assign rfl) ?_)
  refine S_nil ?_
  refine T_tn ?_
  refine wp_block ?_
  refine W_loop (fun mz g W => ∃ (i : Nat), mz = X.length - i ∧ g 0 = (cut200 v xs.length) ∧ g 3 = i64 ((i : Nat) : Int) ∧ Ext w W ∧ i ≤ X.length) ⟨0, rfl, q0, rfl, hE, (Nat.zero_le _)⟩ ?_
  rintro mz f6 w6l ⟨i, hm, q0, q3, hE, hi⟩
  refine wp_seq ?_
  refine wp_seq ?_
  refine W_region ?_
  refine L (D_v (R_move q3) ?_)
  refine L (D_v (R_addN (m := i) (j := 1) rfl rfl (by (try simp only [List.length_take, List.length_drop, List.length_append, List.length_cons, List.length_nil, List.length_replicate, List.length_set, Nm.b_len, be2_len]); omega)) ?_)
  refine L (D_v (R_move q0) ?_)
  refine L (D_v (R_len Try.underlying46 rfl (h2.ext hE).1) ?_)
  refine L (D_v (R_lssI rfl rfl) ?_)
  refine S_nil ?_
  refine T_tn ?_
  refine W_if rfl (fun c2 => ?_) (fun c2 => ?_)
  ·
    have lk : i + 1 < X.length := by have h9 := of_decide_eq_true c2; omega
    have lk0 : i < X.length := by omega
    have ka := ((h2.ext hE)).get (i := i) (getD_some (d := Sg.zero) lk0)
    have kb := ((h2.ext hE)).get (i := (i + 1)) (getD_some (d := Sg.zero) lk)
    refine wp_skip ?_
    refine T_tn ?_
    refine wp_seq ?_
    refine wp_block ?_
    refine wp_seq ?_
    refine W_draw mixed (by kernel_rfl) ?_
    refine Q_v (fun w hw => R_move q0) ?_
    refine Q_v (fun w hw => R_move q3) ?_
    refine Q_v (fun w hw => R_elAddr (i := i) Try.underlying46 Try.sizeOf53 rfl rfl (h2.ext (hE.trans hw)).1 (by (try simp only [List.length_take, List.length_drop, List.length_append, List.length_cons, List.length_nil, List.length_replicate, List.length_set, Nm.b_len, be2_len]); omega)) ?_
    refine Q_v (fun w hw => R_ldL (C := cS) (i := i) (y := ((X).getD (i) Sg.zero)) Try.isAgg53 Try.sizeOf53 rfl (h2.ext (hE.trans hw)) (getD_some (d := Sg.zero) (by (try simp only [List.length_take, List.length_drop, List.length_append, List.length_cons, List.length_nil, List.length_replicate, List.length_set, Nm.b_len, be2_len]); omega))) ?_
    refine Q_v (fun w hw => R_move q0) ?_
    refine Q_v (fun w hw => R_move q3) ?_
    refine Q_v (fun w hw => R_addN (m := i) (j := 1) rfl rfl (by (try simp only [List.length_take, List.length_drop, List.length_append, List.length_cons, List.length_nil, List.length_replicate, List.length_set, Nm.b_len, be2_len]); omega)) ?_
    refine Q_v (fun w hw => R_elAddr (i := (i + 1)) Try.underlying46 Try.sizeOf53 rfl rfl (h2.ext (hE.trans hw)).1 (by (try simp only [List.length_take, List.length_drop, List.length_append, List.length_cons, List.length_nil, List.length_replicate, List.length_set, Nm.b_len, be2_len]); omega)) ?_
    refine Q_v (fun w hw => R_ldL (C := cS) (i := (i + 1)) (y := ((X).getD ((i + 1)) Sg.zero)) Try.isAgg53 Try.sizeOf53 rfl (h2.ext (hE.trans hw)) (getD_some (d := Sg.zero) (by (try simp only [List.length_take, List.length_drop, List.length_append, List.length_cons, List.length_nil, List.length_replicate, List.length_set, Nm.b_len, be2_len]); omega))) ?_
    refine Q_call (fun w hw => R_callF Try.call61 rfl rfl) (fun w hw => c61 (((X).getD (i) Sg.zero)) (((X).getD ((i + 1)) Sg.zero)) _ ((ka.fb (Fb.ext hw)).up (Nat.le_trans (Nat.le_refl _) (hE.trans hw).size)) ((kb.fb (Fb.ext hw)).up (Nat.le_trans (Nat.le_refl _) (hE.trans hw).size))) ?_
    refine Q_v (fun w hw => R_move q0) ?_
    refine Q_v (fun w hw => R_move q3) ?_
    refine Q_v (fun w hw => R_elAddr (i := i) Try.underlying46 Try.sizeOf53 rfl rfl (h2.ext (hE.trans hw)).1 (by (try simp only [List.length_take, List.length_drop, List.length_append, List.length_cons, List.length_nil, List.length_replicate, List.length_set, Nm.b_len, be2_len]); omega)) ?_
    refine Q_v (fun w hw => R_ldL (C := cS) (i := i) (y := ((X).getD (i) Sg.zero)) Try.isAgg53 Try.sizeOf53 rfl (h2.ext (hE.trans hw)) (getD_some (d := Sg.zero) (by (try simp only [List.length_take, List.length_drop, List.length_append, List.length_cons, List.length_nil, List.length_replicate, List.length_set, Nm.b_len, be2_len]); omega))) ?_
    refine Q_v (fun w hw => R_move q0) ?_
    refine Q_v (fun w hw => R_move q3) ?_
    refine Q_v (fun w hw => R_addN (m := i) (j := 1) rfl rfl (by (try simp only [List.length_take, List.length_drop, List.length_append, List.length_cons, List.length_nil, List.length_replicate, List.length_set, Nm.b_len, be2_len]); omega)) ?_
    refine Q_v (fun w hw => R_elAddr (i := (i + 1)) Try.underlying46 Try.sizeOf53 rfl rfl (h2.ext (hE.trans hw)).1 (by (try simp only [List.length_take, List.length_drop, List.length_append, List.length_cons, List.length_nil, List.length_replicate, List.length_set, Nm.b_len, be2_len]); omega)) ?_
    refine Q_v (fun w hw => R_ldL (C := cS) (i := (i + 1)) (y := ((X).getD ((i + 1)) Sg.zero)) Try.isAgg53 Try.sizeOf53 rfl (h2.ext (hE.trans hw)) (getD_some (d := Sg.zero) (by (try simp only [List.length_take, List.length_drop, List.length_append, List.length_cons, List.length_nil, List.length_replicate, List.length_set, Nm.b_len, be2_len]); omega))) ?_
    refine Q_call (fun w hw => R_callF Try.call62 rfl rfl) (fun w hw => c62 (((X).getD (i) Sg.zero)) (((X).getD ((i + 1)) Sg.zero)) _ ((ka.fb (Fb.ext hw)).up (Nat.le_trans (Nat.le_refl _) (hE.trans hw).size)) ((kb.fb (Fb.ext hw)).up (Nat.le_trans (Nat.le_refl _) (hE.trans hw).size))) ?_
    refine Q_v (fun w hw => R_neqB Try.underlying4 rfl rfl) ?_
    refine Q_nil (fun w8_99 e8_99 => ?_)
    replace hE := hE.trans e8_99
    replace ka := ka.fb (Fb.ext e8_99)
    replace kb := kb.fb (Fb.ext e8_99)
    refine T_tn ?_
    refine W_if rfl (fun c3 => ?_) (fun c3 => ?_)
    ·
      exfalso; simp at c3
    ·
      refine wp_skip ?_
      refine T_bn ?_
      refine T_tn ?_
      refine W_region ?_
      refine L (D_v (R_move q3) ?_)
      refine L (D_v (R_addN (m := i) (j := 1) rfl rfl (by (try simp only [List.length_take, List.length_drop, List.length_append, List.length_cons, List.length_nil, List.length_replicate, List.length_set, Nm.b_len, be2_len]); omega)) ?_)
      refine L (D_v (R_assign rfl) ?_)
      refine S_nil ?_
      refine T_tn ?_
      refine ⟨_, _, ?_, rfl, i + 1, rfl, q0, rfl, hE, ?_⟩
      all_goals first | omega
  ·
    refine wp_exit ?_
    refine T_te ?_
    refine T_te ?_
    refine T_be ?_
    refine T_tn ?_
    refine wp_seq ?_
    refine W_region ?_
    refine L (D_v (R_move q0) ?_)
    refine L (D_callE (R_callF Try.call63 rfl rfl) (c63 (cut200 v xs.length) (X) _ (by (try simp only [List.length_take, List.length_drop, List.length_append, List.length_cons, List.length_nil, List.length_replicate, List.length_set, Nm.b_len, be2_len]); omega) ((h2.ext hE).up2 (Nat.le_trans (Nat.le_refl _) hE.size)) hsx) (fun v8_1 w8_1 e8_1 p8_1 => ?_))
    obtain ⟨y8_1, o8_1, n8_1, cn8_1, cm8_1⟩ := p8_1
    replace o8_1 := o8_1.low hE.size
    replace o8_1 := Ow.lev (lo' := w.heap.size) o8_1 (fun _ _ _ => trivial)
    replace hE := hE.trans e8_1
    refine L (D_v (R_move q0) ?_)
    refine L (D_callE (R_callF Try.call64 rfl rfl) (c64 (cut200 v xs.length) (X) _ (by (try simp only [List.length_take, List.length_drop, List.length_append, List.length_cons, List.length_nil, List.length_replicate, List.length_set, Nm.b_len, be2_len]); omega) ((h2.ext hE).up2 (Nat.le_trans (Nat.le_refl _) hE.size))) (fun v8_3 w8_3 e8_3 p8_3 => ?_))
    obtain ⟨y8_3, o8_3, n8_3, cn8_3, cm8_3⟩ := p8_3
    have zv8_1_v8_3 := own_apart o8_1.1 o8_3.1
    have zv8_3_v8_1 := fun k hk hk2 => zv8_1_v8_3 k hk2 hk
    replace o8_3 := o8_3.low hE.size
    replace o8_3 := Ow.lev (lo' := w.heap.size) o8_3 (fun _ _ _ => trivial)
    replace hE := hE.trans e8_3
    replace o8_1 := o8_1.ext e8_3
    refine L (D_v (R_assign rfl) ?_)
    refine L (D_v (R_assign rfl) ?_)
    refine S_nil ?_
    refine T_tn ?_
    refine wp_seq ?_
    refine wp_seq ?_
    refine W_region ?_
    refine L (D_v (R_move rfl) ?_)
    refine L (D_v (R_len Try.underlying61 rfl o8_1.ls.1) ?_)
    refine L (D_v (R_move rfl) ?_)
    refine L (D_v (R_len Try.underlying61 rfl o8_3.ls.1) ?_)
    refine L (D_v (R_neqI rfl rfl) ?_)
    refine S_nil ?_
    refine T_tn ?_
    refine W_if rfl (fun c3 => ?_) (fun c3 => ?_)
    ·
      have hvv : y8_1 = y8_3 := ascV_eq _ _ cn8_1 cn8_3 (fun v => (cm8_1 v).trans (cm8_3 v).symm)
      exfalso; rw [hvv] at c3; simp at c3
    ·
      have hvv : y8_1 = y8_3 := ascV_eq _ _ cn8_1 cn8_3 (fun v => (cm8_1 v).trans (cm8_3 v).symm)
      refine wp_skip ?_
      refine T_tn ?_
      refine wp_seq ?_
      refine wp_seq ?_
      refine W_region ?_
      refine L (D_v (R_assign rfl) ?_)
      refine S_nil ?_
      refine T_tn ?_
      refine wp_block ?_
      refine W_loop (fun mz g W => ∃ (i : Nat), mz = y8_1.length - i ∧ g 0 = (cut200 v xs.length) ∧ g 4 = v8_1 ∧ g 5 = v8_3 ∧ g 6 = i64 ((i : Nat) : Int) ∧ Ext w W ∧ Ow cV w.heap.size w.heap.size W v8_1 y8_1 ∧ Ow cV w.heap.size w.heap.size W v8_3 y8_3) ⟨0, rfl, q0, rfl, rfl, rfl, hE, o8_1, o8_3⟩ ?_
      rintro mz f11 w11l ⟨i, hm, q0, q4, q5, q6, hE, ov8_1, ov8_3⟩
      refine wp_seq ?_
      refine wp_seq ?_
      refine W_region ?_
      refine L (D_v (R_move q6) ?_)
      refine L (D_v (R_move q4) ?_)
      refine L (D_v (R_len Try.underlying61 rfl ov8_1.ls.1) ?_)
      refine L (D_v (R_lssI rfl rfl) ?_)
      refine S_nil ?_
      refine T_tn ?_
      refine W_if rfl (fun c4 => ?_) (fun c4 => ?_)
      ·
        have li : i < y8_1.length := by have h9 := of_decide_eq_true c4; omega
        have li2 : i < y8_3.length := by rw [← hvv]; exact li
        refine wp_skip ?_
        refine T_tn ?_
        refine wp_seq ?_
        refine wp_block ?_
        refine wp_seq ?_
        refine W_draw mixed (by kernel_rfl) ?_
        refine Q_v (fun w hw => R_move q4) ?_
        refine Q_v (fun w hw => R_move q6) ?_
        refine Q_v (fun w hw => R_elAddr (i := i) Try.underlying61 Try.sizeOf26 rfl rfl (ov8_1.ls.ext hw).1 (by (try simp only [List.length_take, List.length_drop, List.length_append, List.length_cons, List.length_nil, List.length_replicate, List.length_set, Nm.b_len, be2_len]); omega)) ?_
        refine Q_v (fun w hw => R_ldL (C := cV) (i := i) (y := ((y8_1).getD (i) Vt.zero)) Try.isAgg26 Try.sizeOf26 rfl (ov8_1.ls.ext hw) (getD_some (d := Vt.zero) (by (try simp only [List.length_take, List.length_drop, List.length_append, List.length_cons, List.length_nil, List.length_replicate, List.length_set, Nm.b_len, be2_len]); omega))) ?_
        refine Q_v (fun w hw => R_move q5) ?_
        refine Q_v (fun w hw => R_move q6) ?_
        refine Q_v (fun w hw => R_elAddr (i := i) Try.underlying61 Try.sizeOf26 rfl rfl (ov8_3.ls.ext hw).1 (by (try simp only [List.length_take, List.length_drop, List.length_append, List.length_cons, List.length_nil, List.length_replicate, List.length_set, Nm.b_len, be2_len]); omega)) ?_
        refine Q_v (fun w hw => R_ldL (C := cV) (i := i) (y := ((y8_3).getD (i) Vt.zero)) Try.isAgg26 Try.sizeOf26 rfl (ov8_3.ls.ext hw) (getD_some (d := Vt.zero) (by (try simp only [List.length_take, List.length_drop, List.length_append, List.length_cons, List.length_nil, List.length_replicate, List.length_set, Nm.b_len, be2_len]); omega))) ?_
        refine Q_v (fun w hw => R_neqA Try.eqGuardType26 (eq26 (((y8_1).getD (i) Vt.zero)) (((y8_3).getD (i) Vt.zero)) _) rfl rfl) ?_
        refine Q_nil (fun w13_99 e13_99 => ?_)
        replace hE := hE.trans e13_99
        replace ov8_1 := ov8_1.ext e13_99
        replace ov8_3 := ov8_3.ext e13_99
        refine T_tn ?_
        refine W_if rfl (fun c5 => ?_) (fun c5 => ?_)
        ·
          exfalso; rw [hvv] at c5; simp at c5
        ·
          refine wp_skip ?_
          refine T_bn ?_
          refine T_tn ?_
          refine W_region ?_
          refine L (D_v (R_move q6) ?_)
          refine L (D_v (R_addN (m := i) (j := 1) rfl rfl (by (try simp only [List.length_take, List.length_drop, List.length_append, List.length_cons, List.length_nil, List.length_replicate, List.length_set, Nm.b_len, be2_len]); omega)) ?_)
          refine L (D_v (R_assign rfl) ?_)
          refine S_nil ?_
          refine T_tn ?_
          refine ⟨_, _, ?_, rfl, i + 1, rfl, q0, q4, q5, rfl, hE, ov8_1, ov8_3⟩
          all_goals first | omega
      ·
        refine wp_exit ?_
        refine T_te ?_
        refine T_te ?_
        refine T_be ?_
        refine T_tn ?_
        refine wp_seq ?_
        refine W_region ?_
        refine L (D_v (R_move q0) ?_)
        refine L (D_callE (R_callF Try.call57 rfl rfl) (c57 w.heap.size (cut200 v xs.length) (X) _ (Nat.le_trans (Nat.le_refl _) hE.size) (by omega) (h2.ext hE) hsx) (fun v13_1 w13_1 e13_1 p13_1 => ?_))
        obtain ⟨y13_1, o13_1, zz13_1, za13_1, zb13_1, zc13_1, zd13_1⟩ := p13_1
        replace o13_1 := o13_1.low hE.size
        replace hE := hE.trans e13_1
        have hc := can_of zc13_1 zb13_1 zd13_1
        have hyl : y13_1.length ≤ X.length := by have h9 := ddn_len zz13_1 zz13_1.length; rw [← zd13_1] at h9; exact Nat.le_trans h9 (Nat.le_of_eq za13_1)
        refine L (D_v (R_move q0) ?_)
        refine L (D_callE (R_callF Try.call65 rfl rfl) (c65k w.heap.size (cut200 v xs.length) (X) _ (Nat.le_trans (Nat.le_refl _) hE.size) (by omega) (h2.ext hE) hsx) (fun v13_3 w13_3 e13_3 p13_3 => ?_))
        obtain ⟨y13_3, o13_3, n13_3, cn13_3⟩ := p13_3
        have zv13_1_v13_3 := own_apart o13_1.1 o13_3.1
        have zv13_3_v13_1 := fun k hk hk2 => zv13_1_v13_3 k hk2 hk
        replace o13_3 := o13_3.low hE.size
        replace hE := hE.trans e13_3
        replace o13_1 := o13_1.ext e13_3
        refine L (D_call (R_callF Try.call58 rfl rfl) (ret_b (c58 v13_1 v13_3 (y13_1) (y13_3) _ (by omega) (o13_1.ls.up2 (Nat.le_trans (Nat.le_refl _) hE.size)) (o13_3.ls.up2 (Nat.le_trans (Nat.le_refl _) hE.size))) (can_uniq2 hc cn13_3)) (fun w13_4 e13_4 => ?_))
        replace hE := hE.trans e13_4
        replace o13_1 := o13_1.ext e13_4
        replace o13_3 := o13_3.ext e13_4
        refine L (D_v (R_move rfl) ?_)
        refine L (D_on rfl rfl (D_call (R_callF Try.call56 rfl rfl) (c56 _) (fun w13_6 e13_6 => ?_)))
        replace hE := hE.trans e13_6
        replace o13_1 := o13_1.ext e13_6
        replace o13_3 := o13_3.ext e13_6
        refine L (D_v (R_cast (v' := .bool true) (R_pick rfl rfl rfl) rfl) ?_)
        refine L (D_v (R_assign rfl) ?_)
        refine S_nil ?_
        refine T_tn ?_
        refine wp_ret ?_
        refine ret1 (v := .bool _) rfl rfl ⟨congrArg (fun b => Ending.returned (Value.bool b)) ?_, hE⟩
        rfl
end Go.Proofs.Yteeopgpgbdhmhaa
