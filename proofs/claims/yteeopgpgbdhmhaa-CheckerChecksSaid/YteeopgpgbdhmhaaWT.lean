/- Walks of the functions on bytes: the reference Canonical, Verified, Find; CheckerChecks. No condition. Printed by wip/mkT.py. -/
import Derived.Test.YteeopgpgbdhmhaaWQ
import Derived.Test.YteeopgpgbdhmhaaCh
namespace Go.Proofs.Yteeopgpgbdhmhaa
open Go.RowKit
set_option linter.unusedVariables false
set_option linter.unusedSimpArgs false
attribute [local irreducible] wpList wpO H wpQuiet wpStill Code.wp Exit.then Exit.inBlock bodyPost Code.rounds Calls valid sameKey conflict lessV hless num between
-- forkledger/forkledgerlaw10.cut
set_option maxRecDepth 4000 in
set_option maxHeartbeats 1000000 in
theorem c48 (v : Value) (xs : List Sg) (w : World) (h : Ls cS w.heap.size w v xs) : Calls Try.prog 48 [v].toArray w (Ret w (cut60 v xs.length)) := by
  refine enter Try.func48 Try.ntmps48 rfl rfl ?_
  have hE := Ext.refl w
  refine wp_seq ?_
  refine W_region ?_
  refine L (D_v (R_assign rfl) ?_)
  refine S_nil ?_
  refine T_tn ?_
  refine wp_seq ?_
  refine wp_seq ?_
  refine W_region ?_
  refine L (D_v (R_move rfl) ?_)
  refine L (D_v (R_len Try.underlying46 rfl (h.ext hE).1) ?_)
  refine L (D_v (R_gtrI rfl rfl) ?_)
  refine S_nil ?_
  refine T_tn ?_
  refine W_if rfl (fun c1 => ?_) (fun c1 => ?_)
  ·
    have lk : 60 < xs.length := by simp at c1; omega
    refine wp_seq ?_
    refine W_region ?_
    refine L (D_v (R_move rfl) ?_)
    refine L (D_v (R_sliceHi (j := 60) Try.underlying46 Try.sizeOf53 rfl rfl (h.ext hE).1 (by (try simp only [List.length_take, List.length_drop, List.length_append, List.length_cons, List.length_nil, List.length_replicate, List.length_set, Nm.b_len, be2_len]); omega)) ?_)
    refine L (D_v (R_assign rfl) ?_)
    refine S_nil ?_
    refine T_tn ?_
    refine wp_ret ?_
    refine T_tr ?_
    refine ret1 (v := _) rfl rfl ⟨?_, hE⟩
    unfold cut60; rw [if_pos lk]; rfl
  ·
    have lk : ¬ 60 < xs.length := by simp at c1; omega
    refine wp_skip ?_
    refine T_tn ?_
    refine wp_seq ?_
    refine W_region ?_
    refine L (D_v (R_move rfl) ?_)
    refine L (D_v (R_assign rfl) ?_)
    refine S_nil ?_
    refine T_tn ?_
    refine wp_ret ?_
    refine ret1 (v := _) rfl rfl ⟨?_, hE⟩
    unfold cut60; rw [if_neg lk]; rfl

-- forkledger/forkledgerref6.Canonical
set_option maxRecDepth 4000 in
set_option maxHeartbeats 1500000 in
theorem c65s (F : Nat) (ih : ∀ (lo : Nat) (v : Value) (xs : List Sg) (w : World), xs.length < F → lo ≤ w.heap.size → xs.length ≤ 1000000 → Ls cS lo w v xs → (∀ x ∈ xs, x.sig.length ≤ 140737488355328) → Calls Try.prog 65 [v].toArray w (RetE w fun r w' => ∃ ys, Ow cS lo w.heap.size w' r ys ∧ ys.length ≤ xs.length)) (lo : Nat) (v : Value) (xs : List Sg) (w : World) (hF : xs.length < F + 1) (hlo : lo ≤ w.heap.size) (hn : xs.length ≤ 1000000) (h : Ls cS lo w v xs) (hsl : ∀ x ∈ xs, x.sig.length ≤ 140737488355328) : Calls Try.prog 65 [v].toArray w (RetE w fun r w' => ∃ ys, Ow cS lo w.heap.size w' r ys ∧ ys.length ≤ xs.length) := by
  refine enter Try.func65 Try.ntmps65 rfl rfl ?_
  have hE := Ext.refl w
  refine wp_seq ?_
  refine W_region ?_
  refine L (D_v (R_assign rfl) ?_)
  refine S_nil ?_
  refine T_tn ?_
  refine wp_seq ?_
  refine W_region ?_
  refine L (D_v (R_assign rfl) ?_)
  refine S_nil ?_
  refine T_tn ?_
  refine wp_seq ?_
  refine wp_seq ?_
  refine W_region ?_
  refine L (D_v (R_assign rfl) ?_)
  refine S_nil ?_
  refine T_tn ?_
  refine wp_block ?_
  refine W_loop (fun mz g W => ∃ (i : Nat) (B : Bool), mz = xs.length - i ∧ g 0 = v ∧ g 3 = .bool B ∧ g 4 = i64 ((i : Nat) : Int) ∧ Ext w W ∧ (B = true ∨ 2 ≤ xs.length) ∧ i ≤ xs.length) ⟨0, true, rfl, rfl, rfl, rfl, hE, (.inl rfl), (Nat.zero_le _)⟩ ?_
  rintro mz f4 w4l ⟨i, B, hm, q0, q3, q4, hE, hB, hi⟩
  refine wp_seq ?_
  refine wp_seq ?_
  refine W_region ?_
  refine L (D_v (R_move q4) ?_)
  refine L (D_v (R_addN (m := i) (j := 1) rfl rfl (by (try simp only [List.length_take, List.length_drop, List.length_append, List.length_cons, List.length_nil, List.length_replicate, List.length_set, Nm.b_len, be2_len]); omega)) ?_)
  refine L (D_v (R_move q0) ?_)
  refine L (D_v (R_len Try.underlying46 rfl (h.ext hE).1) ?_)
  refine L (D_v (R_lssI rfl rfl) ?_)
  refine L (D_v (R_move rfl) ?_)
  refine L (D_g1 rfl rfl (fun hb => R_move q3) ?_)
  refine L (D_v (R_pickA rfl rfl rfl) ?_)
  refine S_nil ?_
  refine T_tn ?_
  refine W_if rfl (fun c1 => ?_) (fun c1 => ?_)
  ·
    have lk : i + 1 < xs.length := by simp at c1; omega
    refine wp_skip ?_
    refine T_tn ?_
    refine wp_seq ?_
    refine wp_block ?_
    refine W_draw mixed (by kernel_rfl) ?_
    refine Q_v (fun w hw => R_move q0) ?_
    refine Q_v (fun w hw => R_move q4) ?_
    refine Q_v (fun w hw => R_elAddr (i := i) Try.underlying46 Try.sizeOf53 rfl rfl (h.ext (hE.trans hw)).1 (by (try simp only [List.length_take, List.length_drop, List.length_append, List.length_cons, List.length_nil, List.length_replicate, List.length_set, Nm.b_len, be2_len]); omega)) ?_
    refine Q_v (fun w hw => R_fieldEl (k := i * 23) Try.runUnderlying53 rfl Try.sizeOf26 (h.ext (hE.trans hw)).1 (lel_ltz (C := cS) (s := 23) rfl (by decide) (getD_some (d := Sg.zero) (by (try simp only [List.length_take, List.length_drop, List.length_append, List.length_cons, List.length_nil, List.length_replicate, List.length_set, Nm.b_len, be2_len]); omega))) rfl) ?_
    refine Q_v (fun w hw => R_ldP (C := cS) (i := i) (k := 0) (y := ((xs).getD (i) Sg.zero)) (c := ((((xs).getD (i) Sg.zero)).vote).l) Try.isAgg26 Try.sizeOf26 rfl (h.ext (hE.trans hw)) (getD_some (d := Sg.zero) (by (try simp only [List.length_take, List.length_drop, List.length_append, List.length_cons, List.length_nil, List.length_replicate, List.length_set, Nm.b_len, be2_len]); omega)) (by decide) (by decide) rfl) ?_
    refine Q_v (fun w hw => R_move q0) ?_
    refine Q_v (fun w hw => R_move q4) ?_
    refine Q_v (fun w hw => R_addN (m := i) (j := 1) rfl rfl (by (try simp only [List.length_take, List.length_drop, List.length_append, List.length_cons, List.length_nil, List.length_replicate, List.length_set, Nm.b_len, be2_len]); omega)) ?_
    refine Q_v (fun w hw => R_elAddr (i := (i + 1)) Try.underlying46 Try.sizeOf53 rfl rfl (h.ext (hE.trans hw)).1 (by (try simp only [List.length_take, List.length_drop, List.length_append, List.length_cons, List.length_nil, List.length_replicate, List.length_set, Nm.b_len, be2_len]); omega)) ?_
    refine Q_v (fun w hw => R_fieldEl (k := (i + 1) * 23) Try.runUnderlying53 rfl Try.sizeOf26 (h.ext (hE.trans hw)).1 (lel_ltz (C := cS) (s := 23) rfl (by decide) (getD_some (d := Sg.zero) (by (try simp only [List.length_take, List.length_drop, List.length_append, List.length_cons, List.length_nil, List.length_replicate, List.length_set, Nm.b_len, be2_len]); omega))) rfl) ?_
    refine Q_v (fun w hw => R_ldP (C := cS) (i := (i + 1)) (k := 0) (y := ((xs).getD ((i + 1)) Sg.zero)) (c := ((((xs).getD ((i + 1)) Sg.zero)).vote).l) Try.isAgg26 Try.sizeOf26 rfl (h.ext (hE.trans hw)) (getD_some (d := Sg.zero) (by (try simp only [List.length_take, List.length_drop, List.length_append, List.length_cons, List.length_nil, List.length_replicate, List.length_set, Nm.b_len, be2_len]); omega)) (by decide) (by decide) rfl) ?_
    refine Q_call (fun w hw => R_callF Try.call34 rfl rfl) (fun w hw => c34 ((((xs).getD (i) Sg.zero)).vote) ((((xs).getD ((i + 1)) Sg.zero)).vote) _ ) ?_
    refine Q_v (fun w hw => R_assign rfl) ?_
    refine Q_nil (fun w6_99 e6_99 => ?_)
    replace hE := hE.trans e6_99
    refine T_bn ?_
    refine T_tn ?_
    refine W_region ?_
    refine L (D_v (R_move q4) ?_)
    refine L (D_v (R_addN (m := i) (j := 1) rfl rfl (by (try simp only [List.length_take, List.length_drop, List.length_append, List.length_cons, List.length_nil, List.length_replicate, List.length_set, Nm.b_len, be2_len]); omega)) ?_)
    refine L (D_v (R_assign rfl) ?_)
    refine S_nil ?_
    refine T_tn ?_
    refine ⟨_, _, ?_, rfl, i + 1, _, rfl, q0, rfl, rfl, hE, ?_, ?_⟩
    all_goals first | omega | exact .inr (by omega)
  ·
    refine wp_exit ?_
    refine T_te ?_
    refine T_te ?_
    refine T_be ?_
    refine T_tn ?_
    refine wp_seq ?_
    refine wp_seq ?_
    refine W_region ?_
    refine L (D_v (R_move q3) ?_)
    refine S_nil ?_
    refine T_tn ?_
    refine W_if rfl (fun c2 => ?_) (fun c2 => ?_)
    ·
      refine wp_seq ?_
      refine W_region ?_
      refine L (D_v (R_assign rfl) ?_)
      refine S_nil ?_
      refine T_tn ?_
      refine wp_seq ?_
      refine wp_seq ?_
      refine W_region ?_
      refine L (D_v (R_assign rfl) ?_)
      refine S_nil ?_
      refine T_tn ?_
      refine wp_block ?_
      refine W_loop (fun mz g W => ∃ (i : Nat) (ys : List Sg) (r5 : Value), mz = xs.length - i ∧ g 0 = v ∧ g 5 = r5 ∧ g 6 = i64 ((i : Nat) : Int) ∧ Ext w W ∧ Ow cS lo w.heap.size W r5 ys ∧ i ≤ xs.length ∧ ys.length = i) ⟨0, [], _, rfl, q0, rfl, rfl, hE, (Ow.nil cS lo _ _), (Nat.zero_le _), (by simp)⟩ ?_
      rintro mz f9 w9l ⟨i, ys, r5, hm, q0, q5, q6, hE, or5, hi, hl⟩
      refine wp_seq ?_
      refine wp_seq ?_
      refine W_region ?_
      refine L (D_v (R_move q6) ?_)
      refine L (D_v (R_move q0) ?_)
      refine L (D_v (R_len Try.underlying46 rfl (h.ext hE).1) ?_)
      refine L (D_v (R_lssI rfl rfl) ?_)
      refine S_nil ?_
      refine T_tn ?_
      refine W_if rfl (fun c3 => ?_) (fun c3 => ?_)
      ·
        have lk : i < xs.length := by simp at c3; omega
        have hsi := hsl _ (List.getElem_mem (by exact lk))
        have hgd : xs.getD i Sg.zero = xs[i] := by simp [List.getD, lk]
        rw [← hgd] at hsi
        refine wp_skip ?_
        refine T_tn ?_
        refine wp_seq ?_
        refine wp_block ?_
        refine W_held (fun W => Ext w W ∧ True) mixed (fun w11_99 e11_99 => ?_)
        replace hE := hE.trans e11_99
        replace or5 := or5.ext e11_99
        refine H_take (i := 0) rfl (by kernel_rfl) (by kernel_rfl) (by kernel_rfl) rfl (pq_block (pq_then (pq_then (pq_block (pq_then (pq_then pq_body)))))) ⟨hE, trivial⟩ rfl (fun w hw => R_move q5) ?_
        refine H_take (i := 1) rfl (by kernel_rfl) (by kernel_rfl) (by kernel_rfl) rfl (pq_block (pq_then (pq_then (pq_block (pq_then (pq_then pq_body)))))) ⟨hE, trivial⟩ rfl (fun w hw => R_move q0) ?_
        refine H_take (i := 2) rfl (by kernel_rfl) (by kernel_rfl) (by kernel_rfl) rfl (pq_block (pq_then (pq_then (pq_block (pq_then (pq_then pq_body)))))) ⟨hE, trivial⟩ rfl (fun w hw => R_move q6) ?_
        refine H_take (i := 3) rfl (by kernel_rfl) (by kernel_rfl) (by kernel_rfl) rfl (pq_block (pq_then (pq_then (pq_block (pq_then (pq_then pq_body)))))) ⟨hE, trivial⟩ rfl (fun w hw => R_elAddr (i := i) Try.underlying46 Try.sizeOf53 rfl rfl (h.ext hw.1).1 (by (try simp only [List.length_take, List.length_drop, List.length_append, List.length_cons, List.length_nil, List.length_replicate, List.length_set, Nm.b_len, be2_len]); omega)) ?_
        refine H_take (i := 4) rfl (by kernel_rfl) (by kernel_rfl) (by kernel_rfl) rfl (pq_block (pq_then (pq_then (pq_block (pq_then (pq_then pq_body)))))) ⟨hE, trivial⟩ rfl (fun w hw => R_fieldEl (k := i * 23) Try.runUnderlying53 rfl Try.sizeOf26 (h.ext hw.1).1 (lel_ltz (C := cS) (s := 23) rfl (by decide) (getD_some (d := Sg.zero) (by (try simp only [List.length_take, List.length_drop, List.length_append, List.length_cons, List.length_nil, List.length_replicate, List.length_set, Nm.b_len, be2_len]); omega))) rfl) ?_
        refine H_take (i := 5) rfl (by kernel_rfl) (by kernel_rfl) (by kernel_rfl) rfl (pq_block (pq_then (pq_then (pq_block (pq_then (pq_then pq_body)))))) ⟨hE, trivial⟩ rfl (fun w hw => R_ldP (C := cS) (i := i) (k := 0) (y := ((xs).getD (i) Sg.zero)) (c := ((((xs).getD (i) Sg.zero)).vote).l) Try.isAgg26 Try.sizeOf26 rfl (h.ext hw.1) (getD_some (d := Sg.zero) (by (try simp only [List.length_take, List.length_drop, List.length_append, List.length_cons, List.length_nil, List.length_replicate, List.length_set, Nm.b_len, be2_len]); omega)) (by decide) (by decide) rfl) ?_
        refine H_take (i := 6) rfl (by kernel_rfl) (by kernel_rfl) (by kernel_rfl) rfl (pq_block (pq_then (pq_then (pq_block (pq_then (pq_then pq_body)))))) ⟨hE, trivial⟩ rfl (fun w hw => R_move q0) ?_
        refine H_take (i := 7) rfl (by kernel_rfl) (by kernel_rfl) (by kernel_rfl) rfl (pq_block (pq_then (pq_then (pq_block (pq_then (pq_then pq_body)))))) ⟨hE, trivial⟩ rfl (fun w hw => R_move q6) ?_
        refine H_take (i := 8) rfl (by kernel_rfl) (by kernel_rfl) (by kernel_rfl) rfl (pq_block (pq_then (pq_then (pq_block (pq_then (pq_then pq_body)))))) ⟨hE, trivial⟩ rfl (fun w hw => R_elAddr (i := i) Try.underlying46 Try.sizeOf53 rfl rfl (h.ext hw.1).1 (by (try simp only [List.length_take, List.length_drop, List.length_append, List.length_cons, List.length_nil, List.length_replicate, List.length_set, Nm.b_len, be2_len]); omega)) ?_
        refine H_take (i := 9) rfl (by kernel_rfl) (by kernel_rfl) (by kernel_rfl) rfl (pq_block (pq_then (pq_then (pq_block (pq_then (pq_then pq_body)))))) ⟨hE, trivial⟩ rfl (fun w hw => R_fieldEl (k := i * 23) Try.runUnderlying53 rfl Try.sizeOf31 (h.ext hw.1).1 (lel_ltz (C := cS) (s := 23) rfl (by decide) (getD_some (d := Sg.zero) (by (try simp only [List.length_take, List.length_drop, List.length_append, List.length_cons, List.length_nil, List.length_replicate, List.length_set, Nm.b_len, be2_len]); omega))) rfl) ?_
        refine H_take (i := 10) rfl (by kernel_rfl) (by kernel_rfl) (by kernel_rfl) rfl (pq_block (pq_then (pq_then (pq_block (pq_then (pq_then pq_body)))))) ⟨hE, trivial⟩ rfl (fun w hw => R_ldC (C := cS) (i := i) (k := 22) (y := ((xs).getD (i) Sg.zero)) (u := (.slice (((xs).getD (i) Sg.zero)).A (((xs).getD (i) Sg.zero)).n (((xs).getD (i) Sg.zero)).c)) Try.isAgg31 rfl (h.ext hw.1) (getD_some (d := Sg.zero) (by (try simp only [List.length_take, List.length_drop, List.length_append, List.length_cons, List.length_nil, List.length_replicate, List.length_set, Nm.b_len, be2_len]); omega)) (by decide) rfl) ?_
        have o11_11n := OwnB.nil w11_99 w.heap.size
        refine H_op (i := 11) (by kernel_rfl) rfl rfl (D_appendB elt5 Try.underlying31 rfl rfl o11_11n ((h.get (getD_some (d := Sg.zero) (by (try simp only [List.length_take, List.length_drop, List.length_append, List.length_cons, List.length_nil, List.length_replicate, List.length_set, Nm.b_len, be2_len]); omega))).fb (Fb.ext hE)).bs (by (try simp only [List.length_take, List.length_drop, List.length_append, List.length_cons, List.length_nil, List.length_replicate, List.length_set, Nm.b_len, be2_len]); omega) hE.size (fun v11_11 w11_11 o11_11 g11_11 => ?_))
        replace g11_11 := gext g11_11
        replace hE := hE.trans g11_11
        replace or5 := or5.ext g11_11
        refine ⟨⟨hE, trivial⟩, ?_⟩
        have k11_12 : Sg.okf lo w11_11 (mkSg ((((xs).getD (i) Sg.zero)).vote) v11_11 ([] ++ (((xs).getD (i) Sg.zero)).sig)) := mkSg_ok _ (Bf.own o11_11)
        refine H_op (i := 12) (by kernel_rfl) rfl rfl (D_v (R_buildS (vs := [(0, .agg ((((xs).getD (i) Sg.zero)).vote).l.toArray), (1, v11_11)]) (c := (mkSg ((((xs).getD (i) Sg.zero)).vote) v11_11 ([] ++ (((xs).getD (i) Sg.zero)).sig)).l) Try.runUnderlying53 places53 Try.zeroValue53 (mapp2 rfl rfl) (fill53 _ o11_11.bs)) ⟨⟨hE, trivial⟩, ?_⟩)
        refine H_op (i := 13) (by kernel_rfl) rfl rfl (D_buildL1 (C := cS) (lo := lo) (y := (mkSg ((((xs).getD (i) Sg.zero)).vote) v11_11 ([] ++ (((xs).getD (i) Sg.zero)).sig))) Try.underlying46 Try.sizeOf53 Try.zeroValue53 (mapp1 rfl) (by decide) k11_12 (fun v11_13 w11_13 o11_13 e11_13 => ?_))
        have zr5_v11_13 := own_apart or5.1 o11_13.1
        have zv11_13_r5 := fun k hk hk2 => zr5_v11_13 k hk2 hk
        replace o11_13 := o11_13.low hE.size
        replace hE := hE.trans e11_13
        replace or5 := or5.ext e11_13
        replace o11_11 := o11_11.ext e11_13
        replace k11_12 := k11_12.fb (Fb.ext e11_13)
        refine ⟨⟨hE, trivial⟩, ?_⟩
        refine H_op (i := 14) (by kernel_rfl) rfl rfl (D_appendL elt53 Try.underlying46 rfl rfl or5 hlo o11_13.ls (by (try simp only [List.length_take, List.length_drop, List.length_append, List.length_cons, List.length_nil, List.length_replicate, List.length_set, Nm.b_len, be2_len]); omega) (by (try simp only [List.length_take, List.length_drop, List.length_append, List.length_cons, List.length_nil, List.length_replicate, List.length_set, Nm.b_len, be2_len]); omega) hE.size (fun v11_14 w11_14 o11_14 g11_14 f11_14 sv11_14 => ?_))
        have zv11_13_v11_14 : ∀ k, Value.ownBlock v11_13 = some k → Value.ownBlock v11_14 ≠ some k := fun k hk2 hk => (sv11_14 _ hk).elim (fun h => zv11_13_r5 k hk2 h) (fun h => absurd h (Nat.not_le.2 (own_lt o11_13.1 hk2)))
        have zv11_14_v11_13 := fun k hk hk2 => zv11_13_v11_14 k hk2 hk
        replace hE := hE.grown g11_14 (fun k hk => own_ge or5.1 hk)
        replace o11_11 := o11_11.grown g11_14 (own_ne o11_11 or5.1 rfl)
        replace o11_13 := o11_13.grown g11_14 (zv11_13_r5) f11_14
        replace k11_12 := k11_12.fb f11_14
        refine ⟨⟨hE, trivial⟩, ?_⟩
        refine H_take (i := 15) rfl (by kernel_rfl) (by kernel_rfl) (by kernel_rfl) rfl (pq_block (pq_then (pq_then (pq_block (pq_then (pq_then pq_body)))))) ⟨hE, trivial⟩ rfl (fun w hw => R_assign rfl) ?_
        refine H_done (by kernel_rfl) ?_
        refine T_bn ?_
        refine T_tn ?_
        refine W_region ?_
        refine L (D_v (R_move q6) ?_)
        refine L (D_v (R_addN (m := i) (j := 1) rfl rfl (by (try simp only [List.length_take, List.length_drop, List.length_append, List.length_cons, List.length_nil, List.length_replicate, List.length_set, Nm.b_len, be2_len]); omega)) ?_)
        refine L (D_v (R_assign rfl) ?_)
        refine S_nil ?_
        refine T_tn ?_
        refine ⟨_, _, ?_, rfl, i + 1, _, _, rfl, q0, rfl, rfl, hE, o11_14, ?_, ?_⟩
        all_goals first | omega | (simp only [List.length_append, List.length_cons, List.length_nil]; omega)
      ·
        refine wp_exit ?_
        refine T_te ?_
        refine T_te ?_
        refine T_be ?_
        refine T_tn ?_
        refine wp_seq ?_
        refine W_region ?_
        refine L (D_v (R_move q5) ?_)
        refine L (D_v (R_assign rfl) ?_)
        refine S_nil ?_
        refine T_tn ?_
        refine wp_ret ?_
        refine T_tr ?_
        refine ret1 (v := r5) rfl rfl ⟨_, rfl, hE, ?_⟩
        exact ⟨_, or5, by first | omega | (simp only [List.length_append, List.length_nil] at *; omega)⟩
    ·
      have h2 : 2 ≤ xs.length := hB.resolve_left (by simp [c2])
      refine wp_skip ?_
      refine T_tn ?_
      refine wp_seq ?_
      refine W_held (fun W => Ext w W ∧ True) mixed (fun w7_99 e7_99 => ?_)
      replace hE := hE.trans e7_99
      refine H_take (i := 0) rfl (by kernel_rfl) (by kernel_rfl) (by kernel_rfl) rfl (pq_then pq_body) ⟨hE, trivial⟩ rfl (fun w hw => R_move q0) ?_
      refine H_take (i := 1) rfl (by kernel_rfl) (by kernel_rfl) (by kernel_rfl) rfl (pq_then pq_body) ⟨hE, trivial⟩ rfl (fun w hw => R_move q0) ?_
      refine H_take (i := 2) rfl (by kernel_rfl) (by kernel_rfl) (by kernel_rfl) rfl (pq_then pq_body) ⟨hE, trivial⟩ rfl (fun w hw => R_len Try.underlying46 rfl (h.ext hw.1).1) ?_
      refine H_take (i := 3) rfl (by kernel_rfl) (by kernel_rfl) (by kernel_rfl) rfl (pq_then pq_body) ⟨hE, trivial⟩ rfl (fun w hw => R_quoN (m := (xs).length) (j := 2) rfl rfl (by decide) (by (try simp only [List.length_take, List.length_drop, List.length_append, List.length_cons, List.length_nil, List.length_replicate, List.length_set, Nm.b_len, be2_len]); omega)) ?_
      refine H_take (i := 4) rfl (by kernel_rfl) (by kernel_rfl) (by kernel_rfl) rfl (pq_then pq_body) ⟨hE, trivial⟩ rfl (fun w hw => R_sliceHi (j := ((xs).length / 2)) Try.underlying46 Try.sizeOf53 rfl rfl (h.ext hw.1).1 (by (try simp only [List.length_take, List.length_drop, List.length_append, List.length_cons, List.length_nil, List.length_replicate, List.length_set, Nm.b_len, be2_len]); omega)) ?_
      refine H_take (i := 6) rfl (by kernel_rfl) (by kernel_rfl) (by kernel_rfl) rfl (pq_then pq_body) ⟨hE, trivial⟩ rfl (fun w hw => R_move q0) ?_
      refine H_take (i := 7) rfl (by kernel_rfl) (by kernel_rfl) (by kernel_rfl) rfl (pq_then pq_body) ⟨hE, trivial⟩ rfl (fun w hw => R_move q0) ?_
      refine H_take (i := 8) rfl (by kernel_rfl) (by kernel_rfl) (by kernel_rfl) rfl (pq_then pq_body) ⟨hE, trivial⟩ rfl (fun w hw => R_len Try.underlying46 rfl (h.ext hw.1).1) ?_
      refine H_take (i := 9) rfl (by kernel_rfl) (by kernel_rfl) (by kernel_rfl) rfl (pq_then pq_body) ⟨hE, trivial⟩ rfl (fun w hw => R_quoN (m := (xs).length) (j := 2) rfl rfl (by decide) (by (try simp only [List.length_take, List.length_drop, List.length_append, List.length_cons, List.length_nil, List.length_replicate, List.length_set, Nm.b_len, be2_len]); omega)) ?_
      refine H_take (i := 10) rfl (by kernel_rfl) (by kernel_rfl) (by kernel_rfl) rfl (pq_then pq_body) ⟨hE, trivial⟩ rfl (fun w hw => R_sliceLo (i := ((xs).length / 2)) Try.underlying46 Try.sizeOf53 rfl rfl (h.ext hw.1).1 (by (try simp only [List.length_take, List.length_drop, List.length_append, List.length_cons, List.length_nil, List.length_replicate, List.length_set, Nm.b_len, be2_len]); omega)) ?_
      refine H_op (i := 5) (by kernel_rfl) rfl rfl (D_callE (R_callF Try.call65 rfl rfl) (ih lo (cutV v (Cd.sz cS) (0) (((xs).length / 2))) ((((xs).drop (0)).take (((xs).length / 2) - 0))) _ (by simp only [List.length_take, List.length_drop]; omega) (Nat.le_trans hlo hE.size) (by simp only [List.length_take, List.length_drop]; omega) ((h.ext hE).cut (by (try simp only [List.length_take, List.length_drop, List.length_append, List.length_cons, List.length_nil, List.length_replicate, List.length_set, Nm.b_len, be2_len]); omega) (by (try simp only [List.length_take, List.length_drop, List.length_append, List.length_cons, List.length_nil, List.length_replicate, List.length_set, Nm.b_len, be2_len]); omega)) (fun x hx => hsl x (List.mem_of_mem_drop (List.mem_of_mem_take hx)))) (fun v7_5 w7_5 e7_5 p7_5 => ?_))
      obtain ⟨y7_5, o7_5, n7_5⟩ := p7_5
      replace o7_5 := o7_5.low hE.size
      replace hE := hE.trans e7_5
      refine ⟨⟨hE, trivial⟩, ?_⟩
      refine H_op (i := 11) (by kernel_rfl) rfl rfl (D_callE (R_callF Try.call65 rfl rfl) (ih lo (cutV v (Cd.sz cS) (((xs).length / 2)) ((xs).length)) ((((xs).drop (((xs).length / 2))).take ((xs).length - ((xs).length / 2)))) _ (by simp only [List.length_take, List.length_drop]; omega) (Nat.le_trans hlo hE.size) (by simp only [List.length_take, List.length_drop]; omega) ((h.ext hE).cut (by (try simp only [List.length_take, List.length_drop, List.length_append, List.length_cons, List.length_nil, List.length_replicate, List.length_set, Nm.b_len, be2_len]); omega) (by (try simp only [List.length_take, List.length_drop, List.length_append, List.length_cons, List.length_nil, List.length_replicate, List.length_set, Nm.b_len, be2_len]); omega)) (fun x hx => hsl x (List.mem_of_mem_drop (List.mem_of_mem_take hx)))) (fun v7_11 w7_11 e7_11 p7_11 => ?_))
      obtain ⟨y7_11, o7_11, n7_11⟩ := p7_11
      have zv7_5_v7_11 := own_apart o7_5.1 o7_11.1
      have zv7_11_v7_5 := fun k hk hk2 => zv7_5_v7_11 k hk2 hk
      replace o7_11 := o7_11.low hE.size
      replace hE := hE.trans e7_11
      replace o7_5 := o7_5.ext e7_11
      refine ⟨⟨hE, trivial⟩, ?_⟩
      refine H_take (i := 12) rfl (by kernel_rfl) (by kernel_rfl) (by kernel_rfl) rfl (pq_then pq_body) ⟨hE, trivial⟩ rfl (fun w hw => R_assign rfl) ?_
      refine H_take (i := 13) rfl (by kernel_rfl) (by kernel_rfl) (by kernel_rfl) rfl (pq_then pq_body) ⟨hE, trivial⟩ rfl (fun w hw => R_assign rfl) ?_
      refine H_done (by kernel_rfl) ?_
      refine T_tn ?_
      refine wp_seq ?_
      refine W_region ?_
      refine L (D_v (R_assign rfl) ?_)
      refine S_nil ?_
      refine T_tn ?_
      refine wp_seq ?_
      refine wp_block ?_
      refine W_loop (fun mz g W => ∃ (va : Value) (ya : List Sg) (vb : Value) (yb : List Sg) (zs : List Sg) (r9 : Value), mz = ya.length + yb.length ∧ g 7 = va ∧ g 8 = vb ∧ g 9 = r9 ∧ Ext w W ∧ Ow cS lo w.heap.size W v7_5 y7_5 ∧ Ow cS lo w.heap.size W v7_11 y7_11 ∧ Ow cS lo w.heap.size W r9 zs ∧ (∀ k, Value.ownBlock v7_5 = some k → Value.ownBlock r9 ≠ some k) ∧ (∀ k, Value.ownBlock v7_11 = some k → Value.ownBlock r9 ≠ some k) ∧ CutOf cS v7_5 y7_5 va ya ∧ CutOf cS v7_11 y7_11 vb yb ∧ zs.length + ya.length + yb.length ≤ xs.length) ⟨v7_5, y7_5, v7_11, y7_11, [], _, rfl, rfl, rfl, rfl, hE, o7_5, o7_11, (Ow.nil cS lo _ _), (fun k _ h => nomatch (show (none : Option Nat) = some _ from h)), (fun k _ h => nomatch (show (none : Option Nat) = some _ from h)), (CutOf.refl _ _ _), (CutOf.refl _ _ _), (by simp only [List.length_nil, List.length_take, List.length_drop] at *; omega)⟩ ?_
      rintro mz f9 w9l ⟨va, ya, vb, yb, zs, r9, hm, q7, q8, q9, hE, ov7_5, ov7_11, or9, zv7_5_r9, zv7_11_r9, ca, cb, hz⟩
      refine wp_seq ?_
      refine wp_seq ?_
      refine W_region ?_
      refine L (D_v (R_move q7) ?_)
      refine L (D_v (R_len Try.underlying46 rfl (ov7_5.ls.via ca).1) ?_)
      refine L (D_v (R_gtrI rfl rfl) ?_)
      refine L (D_v (R_move rfl) ?_)
      refine L (D_g1 rfl rfl (fun hb => R_move q8) ?_)
      refine L (D_g1 rfl rfl (fun hb => R_len Try.underlying46 (cgE hb) (ov7_11.ls.via cb).1) ?_)
      refine L (D_g1 rfl rfl (fun hb => R_gtrI (cgE hb) rfl) ?_)
      refine L (D_v (R_pickO rfl rfl rfl) ?_)
      refine S_nil ?_
      refine T_tn ?_
      refine W_if rfl (fun c3 => ?_) (fun c3 => ?_)
      ·
        have l12 : 0 < ya.length ∨ 0 < yb.length := by (revert c3; generalize ya.length = m9; generalize yb.length = k9; intro h8; simp at h8; omega)
        refine wp_skip ?_
        refine T_tn ?_
        refine wp_block ?_
        refine wp_block ?_
        refine wp_seq ?_
        refine W_draw mixed (by kernel_rfl) ?_
        refine Q_v (fun w hw => R_move q8) ?_
        refine Q_v (fun w hw => R_len Try.underlying46 rfl ((ov7_11.ls.ext hw).via cb).1) ?_
        refine Q_v (fun w hw => R_eqlI rfl rfl) ?_
        refine Q_v (fun w hw => R_move rfl) ?_
        refine Q_g1 rfl rfl (fun hb w hw => R_move q7) ?_
        refine Q_g1 rfl rfl (fun hb w hw => R_len Try.underlying46 (cgE hb) ((ov7_5.ls.ext hw).via ca).1) ?_
        refine Q_g1 rfl rfl (fun hb w hw => R_gtrI (cgE hb) rfl) ?_
        refine Q_g1 rfl rfl (fun hb w hw => R_move (cgE hb)) ?_
        refine Q_g2 rfl rfl (fun hg hb w hw => R_move q7) ?_
        refine Q_g2 rfl rfl (fun hg hb w hw => R_elAddr (i := 0) Try.underlying46 Try.sizeOf53 (cgA hg hb) rfl ((ov7_5.ls.ext hw).via ca).1 (by first | omega | (revert hb; generalize ya.length = m9; generalize yb.length = k9; intro hb; simp at hb; omega) | (revert hb hg; generalize ya.length = m9; generalize yb.length = k9; intro hb hg; simp at hb hg; omega))) ?_
        refine Q_g2 rfl rfl (fun hg hb w hw => R_fieldEl (k := 0 * 23) Try.runUnderlying53 rfl Try.sizeOf26 ((ov7_5.ls.ext hw).via ca).1 (lel_ltz (C := cS) (s := 23) rfl (by decide) (getD_some (d := Sg.zero) (by first | omega | (revert hb; generalize ya.length = m9; generalize yb.length = k9; intro hb; simp at hb; omega) | (revert hb hg; generalize ya.length = m9; generalize yb.length = k9; intro hb hg; simp at hb hg; omega)))) (cgA hg hb)) ?_
        refine Q_g2 rfl rfl (fun hg hb w hw => R_ldP (C := cS) (i := 0) (k := 0) (y := ((ya).getD (0) Sg.zero)) (c := ((((ya).getD (0) Sg.zero)).vote).l) Try.isAgg26 Try.sizeOf26 (cgA hg hb) ((ov7_5.ls.ext hw).via ca) (getD_some (d := Sg.zero) (by first | omega | (revert hb; generalize ya.length = m9; generalize yb.length = k9; intro hb; simp at hb; omega) | (revert hb hg; generalize ya.length = m9; generalize yb.length = k9; intro hb hg; simp at hb hg; omega))) (by decide) (by decide) rfl) ?_
        refine Q_g2 rfl rfl (fun hg hb w hw => R_move q8) ?_
        refine Q_g2 rfl rfl (fun hg hb w hw => R_elAddr (i := 0) Try.underlying46 Try.sizeOf53 (cgA hg hb) rfl ((ov7_11.ls.ext hw).via cb).1 (by first | omega | (revert hb; generalize ya.length = m9; generalize yb.length = k9; intro hb; simp at hb; omega) | (revert hb hg; generalize ya.length = m9; generalize yb.length = k9; intro hb hg; simp at hb hg; omega))) ?_
        refine Q_g2 rfl rfl (fun hg hb w hw => R_fieldEl (k := 0 * 23) Try.runUnderlying53 rfl Try.sizeOf26 ((ov7_11.ls.ext hw).via cb).1 (lel_ltz (C := cS) (s := 23) rfl (by decide) (getD_some (d := Sg.zero) (by first | omega | (revert hb; generalize ya.length = m9; generalize yb.length = k9; intro hb; simp at hb; omega) | (revert hb hg; generalize ya.length = m9; generalize yb.length = k9; intro hb hg; simp at hb hg; omega)))) (cgA hg hb)) ?_
        refine Q_g2 rfl rfl (fun hg hb w hw => R_ldP (C := cS) (i := 0) (k := 0) (y := ((yb).getD (0) Sg.zero)) (c := ((((yb).getD (0) Sg.zero)).vote).l) Try.isAgg26 Try.sizeOf26 (cgA hg hb) ((ov7_11.ls.ext hw).via cb) (getD_some (d := Sg.zero) (by first | omega | (revert hb; generalize ya.length = m9; generalize yb.length = k9; intro hb; simp at hb; omega) | (revert hb hg; generalize ya.length = m9; generalize yb.length = k9; intro hb hg; simp at hb hg; omega))) (by decide) (by decide) rfl) ?_
        refine Q_gc2 rfl rfl (fun hg hb w hw => R_callF Try.call34 (mapv2 (cgA hg hb) (cgA hg hb)) rfl) (fun hg hb w hw => c34 ((((ya).getD (0) Sg.zero)).vote) ((((yb).getD (0) Sg.zero)).vote) _ ) ?_
        refine Q_g1 rfl rfl (fun hb w hw => R_pickA (cgE hb) (cgD hb) rfl) ?_
        refine Q_v (fun w hw => R_pickO rfl rfl rfl) ?_
        refine Q_v (fun w hw => R_assign rfl) ?_
        refine Q_nil (fun w11_99 e11_99 => ?_)
        replace hE := hE.trans e11_99
        replace ov7_5 := ov7_5.ext e11_99
        replace ov7_11 := ov7_11.ext e11_99
        replace or9 := or9.ext e11_99
        refine T_tn ?_
        refine W_if rfl (fun c4 => ?_) (fun c4 => ?_)
        ·
          have la : 0 < ya.length := by (revert c4 l12; generalize ya.length = m9; generalize yb.length = k9; intro h9 h8; simp at h8; omega)
          refine wp_seq ?_
          refine W_region ?_
          refine L (D_v (R_move q9) ?_)
          refine L (D_v (R_move q7) ?_)
          refine L (D_v (R_elAddr (i := 0) Try.underlying46 Try.sizeOf53 rfl rfl (ov7_5.ls.via ca).1 (by first | omega | (revert hb; generalize ya.length = m9; generalize yb.length = k9; intro hb; simp at hb; omega) | (revert hb hg; generalize ya.length = m9; generalize yb.length = k9; intro hb hg; simp at hb hg; omega))) ?_)
          have k12_3 := ((ov7_5.ls.via ca)).get (getD_some (d := Sg.zero) (by first | omega | (revert hb; generalize ya.length = m9; generalize yb.length = k9; intro hb; simp at hb; omega) | (revert hb hg; generalize ya.length = m9; generalize yb.length = k9; intro hb hg; simp at hb hg; omega)))
          refine L (D_v (R_ldL (C := cS) (i := 0) (y := ((ya).getD (0) Sg.zero)) Try.isAgg53 Try.sizeOf53 rfl (ov7_5.ls.via ca) (getD_some (d := Sg.zero) (by first | omega | (revert hb; generalize ya.length = m9; generalize yb.length = k9; intro hb; simp at hb; omega) | (revert hb hg; generalize ya.length = m9; generalize yb.length = k9; intro hb hg; simp at hb hg; omega)))) ?_)
          refine L (D_buildL1 (C := cS) (lo := lo) (y := ((ya).getD (0) Sg.zero)) Try.underlying46 Try.sizeOf53 Try.zeroValue53 (mapp1 rfl) (by decide) k12_3 (fun v12_4 w12_4 o12_4 e12_4 => ?_))
          have zv7_5_v12_4 := own_apart ov7_5.1 o12_4.1
          have zv12_4_v7_5 := fun k hk hk2 => zv7_5_v12_4 k hk2 hk
          have zv7_11_v12_4 := own_apart ov7_11.1 o12_4.1
          have zv12_4_v7_11 := fun k hk hk2 => zv7_11_v12_4 k hk2 hk
          have zr9_v12_4 := own_apart or9.1 o12_4.1
          have zv12_4_r9 := fun k hk hk2 => zr9_v12_4 k hk2 hk
          replace o12_4 := o12_4.low hE.size
          replace hE := hE.trans e12_4
          replace ov7_5 := ov7_5.ext e12_4
          replace ov7_11 := ov7_11.ext e12_4
          replace or9 := or9.ext e12_4
          replace k12_3 := k12_3.fb (Fb.ext e12_4)
          refine L (D_appendL elt53 Try.underlying46 rfl rfl or9 hlo o12_4.ls (by (try simp only [List.length_take, List.length_drop, List.length_append, List.length_cons, List.length_nil, List.length_replicate, List.length_set, Nm.b_len, be2_len]); omega) (by (try simp only [List.length_take, List.length_drop, List.length_append, List.length_cons, List.length_nil, List.length_replicate, List.length_set, Nm.b_len, be2_len]); omega) hE.size (fun v12_5 w12_5 o12_5 g12_5 f12_5 sv12_5 => ?_))
          have zv7_5_v12_5 : ∀ k, Value.ownBlock v7_5 = some k → Value.ownBlock v12_5 ≠ some k := fun k hk2 hk => (sv12_5 _ hk).elim (fun h => zv7_5_r9 k hk2 h) (fun h => absurd h (Nat.not_le.2 (own_lt ov7_5.1 hk2)))
          have zv12_5_v7_5 := fun k hk hk2 => zv7_5_v12_5 k hk2 hk
          have zv7_11_v12_5 : ∀ k, Value.ownBlock v7_11 = some k → Value.ownBlock v12_5 ≠ some k := fun k hk2 hk => (sv12_5 _ hk).elim (fun h => zv7_11_r9 k hk2 h) (fun h => absurd h (Nat.not_le.2 (own_lt ov7_11.1 hk2)))
          have zv12_5_v7_11 := fun k hk hk2 => zv7_11_v12_5 k hk2 hk
          have zv12_4_v12_5 : ∀ k, Value.ownBlock v12_4 = some k → Value.ownBlock v12_5 ≠ some k := fun k hk2 hk => (sv12_5 _ hk).elim (fun h => zv12_4_r9 k hk2 h) (fun h => absurd h (Nat.not_le.2 (own_lt o12_4.1 hk2)))
          have zv12_5_v12_4 := fun k hk hk2 => zv12_4_v12_5 k hk2 hk
          replace hE := hE.grown g12_5 (fun k hk => own_ge or9.1 hk)
          replace ov7_5 := ov7_5.grown g12_5 (zv7_5_r9) f12_5
          replace ov7_11 := ov7_11.grown g12_5 (zv7_11_r9) f12_5
          replace o12_4 := o12_4.grown g12_5 (zv12_4_r9) f12_5
          replace k12_3 := k12_3.fb f12_5
          refine L (D_v (R_assign rfl) ?_)
          refine S_nil ?_
          refine T_tn ?_
          refine W_region ?_
          refine L (D_v (R_move q7) ?_)
          refine L (D_v (R_sliceLo (i := 1) Try.underlying46 Try.sizeOf53 rfl rfl (ov7_5.ls.via ca).1 (by (try simp only [List.length_take, List.length_drop, List.length_append, List.length_cons, List.length_nil, List.length_replicate, List.length_set, Nm.b_len, be2_len]); omega)) ?_)
          refine L (D_v (R_assign rfl) ?_)
          refine S_nil ?_
          refine T_bn ?_
          refine T_bn ?_
          refine T_tn ?_
          refine ⟨_, _, ?_, rfl, (cutV va (Cd.sz cS) (1) ((ya).length)), (((ya).drop (1)).take ((ya).length - 1)), vb, yb, _, _, rfl, rfl, q8, rfl, hE, ov7_5, ov7_11, o12_5, zv7_5_v12_5, zv7_11_v12_5, ?_, ?_, ?_⟩
          all_goals first | omega | exact ca | exact cb | exact ca.cut (by omega) (Nat.le_refl _) | exact cb.cut (by omega) (Nat.le_refl _) | (simp only [List.length_append, List.length_cons, List.length_nil, List.length_take, List.length_drop]; omega)
        ·
          have lb : 0 < yb.length := by (revert c4 l12; generalize ya.length = m9; generalize yb.length = k9; intro h9 h8; simp at h8; omega)
          refine wp_seq ?_
          refine W_draw mixed (by kernel_rfl) ?_
          refine Q_v (fun w hw => R_move q7) ?_
          refine Q_v (fun w hw => R_len Try.underlying46 rfl ((ov7_5.ls.ext hw).via ca).1) ?_
          refine Q_v (fun w hw => R_eqlI rfl rfl) ?_
          refine Q_v (fun w hw => R_move rfl) ?_
          refine Q_g1 rfl rfl (fun hb w hw => R_move q8) ?_
          refine Q_g1 rfl rfl (fun hb w hw => R_elAddr (i := 0) Try.underlying46 Try.sizeOf53 (cgE hb) rfl ((ov7_11.ls.ext hw).via cb).1 (by first | omega | (revert hb; generalize ya.length = m9; generalize yb.length = k9; intro hb; simp at hb; omega) | (revert hb hg; generalize ya.length = m9; generalize yb.length = k9; intro hb hg; simp at hb hg; omega))) ?_
          refine Q_g1 rfl rfl (fun hb w hw => R_fieldEl (k := 0 * 23) Try.runUnderlying53 rfl Try.sizeOf26 ((ov7_11.ls.ext hw).via cb).1 (lel_ltz (C := cS) (s := 23) rfl (by decide) (getD_some (d := Sg.zero) (by first | omega | (revert hb; generalize ya.length = m9; generalize yb.length = k9; intro hb; simp at hb; omega) | (revert hb hg; generalize ya.length = m9; generalize yb.length = k9; intro hb hg; simp at hb hg; omega)))) (cgE hb)) ?_
          refine Q_g1 rfl rfl (fun hb w hw => R_ldP (C := cS) (i := 0) (k := 0) (y := ((yb).getD (0) Sg.zero)) (c := ((((yb).getD (0) Sg.zero)).vote).l) Try.isAgg26 Try.sizeOf26 (cgE hb) ((ov7_11.ls.ext hw).via cb) (getD_some (d := Sg.zero) (by first | omega | (revert hb; generalize ya.length = m9; generalize yb.length = k9; intro hb; simp at hb; omega) | (revert hb hg; generalize ya.length = m9; generalize yb.length = k9; intro hb hg; simp at hb hg; omega))) (by decide) (by decide) rfl) ?_
          refine Q_g1 rfl rfl (fun hb w hw => R_move q7) ?_
          refine Q_g1 rfl rfl (fun hb w hw => R_elAddr (i := 0) Try.underlying46 Try.sizeOf53 (cgE hb) rfl ((ov7_5.ls.ext hw).via ca).1 (by first | omega | (revert hb; generalize ya.length = m9; generalize yb.length = k9; intro hb; simp at hb; omega) | (revert hb hg; generalize ya.length = m9; generalize yb.length = k9; intro hb hg; simp at hb hg; omega))) ?_
          refine Q_g1 rfl rfl (fun hb w hw => R_fieldEl (k := 0 * 23) Try.runUnderlying53 rfl Try.sizeOf26 ((ov7_5.ls.ext hw).via ca).1 (lel_ltz (C := cS) (s := 23) rfl (by decide) (getD_some (d := Sg.zero) (by first | omega | (revert hb; generalize ya.length = m9; generalize yb.length = k9; intro hb; simp at hb; omega) | (revert hb hg; generalize ya.length = m9; generalize yb.length = k9; intro hb hg; simp at hb hg; omega)))) (cgE hb)) ?_
          refine Q_g1 rfl rfl (fun hb w hw => R_ldP (C := cS) (i := 0) (k := 0) (y := ((ya).getD (0) Sg.zero)) (c := ((((ya).getD (0) Sg.zero)).vote).l) Try.isAgg26 Try.sizeOf26 (cgE hb) ((ov7_5.ls.ext hw).via ca) (getD_some (d := Sg.zero) (by first | omega | (revert hb; generalize ya.length = m9; generalize yb.length = k9; intro hb; simp at hb; omega) | (revert hb hg; generalize ya.length = m9; generalize yb.length = k9; intro hb hg; simp at hb hg; omega))) (by decide) (by decide) rfl) ?_
          refine Q_gc1 rfl rfl (fun hb w hw => R_callF Try.call34 (mapv2 (cgE hb) (cgE hb)) rfl) (fun hb w hw => c34 ((((yb).getD (0) Sg.zero)).vote) ((((ya).getD (0) Sg.zero)).vote) _ ) ?_
          refine Q_v (fun w hw => R_pickO rfl rfl rfl) ?_
          refine Q_v (fun w hw => R_assign rfl) ?_
          refine Q_nil (fun w12_99 e12_99 => ?_)
          replace hE := hE.trans e12_99
          replace ov7_5 := ov7_5.ext e12_99
          replace ov7_11 := ov7_11.ext e12_99
          replace or9 := or9.ext e12_99
          refine T_tn ?_
          refine W_if rfl (fun c5 => ?_) (fun c5 => ?_)
          ·
            refine wp_seq ?_
            refine W_region ?_
            refine L (D_v (R_move q9) ?_)
            refine L (D_v (R_move q8) ?_)
            refine L (D_v (R_elAddr (i := 0) Try.underlying46 Try.sizeOf53 rfl rfl (ov7_11.ls.via cb).1 (by first | omega | (revert hb; generalize ya.length = m9; generalize yb.length = k9; intro hb; simp at hb; omega) | (revert hb hg; generalize ya.length = m9; generalize yb.length = k9; intro hb hg; simp at hb hg; omega))) ?_)
            have k13_3 := ((ov7_11.ls.via cb)).get (getD_some (d := Sg.zero) (by first | omega | (revert hb; generalize ya.length = m9; generalize yb.length = k9; intro hb; simp at hb; omega) | (revert hb hg; generalize ya.length = m9; generalize yb.length = k9; intro hb hg; simp at hb hg; omega)))
            refine L (D_v (R_ldL (C := cS) (i := 0) (y := ((yb).getD (0) Sg.zero)) Try.isAgg53 Try.sizeOf53 rfl (ov7_11.ls.via cb) (getD_some (d := Sg.zero) (by first | omega | (revert hb; generalize ya.length = m9; generalize yb.length = k9; intro hb; simp at hb; omega) | (revert hb hg; generalize ya.length = m9; generalize yb.length = k9; intro hb hg; simp at hb hg; omega)))) ?_)
            refine L (D_buildL1 (C := cS) (lo := lo) (y := ((yb).getD (0) Sg.zero)) Try.underlying46 Try.sizeOf53 Try.zeroValue53 (mapp1 rfl) (by decide) k13_3 (fun v13_4 w13_4 o13_4 e13_4 => ?_))
            have zv7_5_v13_4 := own_apart ov7_5.1 o13_4.1
            have zv13_4_v7_5 := fun k hk hk2 => zv7_5_v13_4 k hk2 hk
            have zv7_11_v13_4 := own_apart ov7_11.1 o13_4.1
            have zv13_4_v7_11 := fun k hk hk2 => zv7_11_v13_4 k hk2 hk
            have zr9_v13_4 := own_apart or9.1 o13_4.1
            have zv13_4_r9 := fun k hk hk2 => zr9_v13_4 k hk2 hk
            replace o13_4 := o13_4.low hE.size
            replace hE := hE.trans e13_4
            replace ov7_5 := ov7_5.ext e13_4
            replace ov7_11 := ov7_11.ext e13_4
            replace or9 := or9.ext e13_4
            replace k13_3 := k13_3.fb (Fb.ext e13_4)
            refine L (D_appendL elt53 Try.underlying46 rfl rfl or9 hlo o13_4.ls (by (try simp only [List.length_take, List.length_drop, List.length_append, List.length_cons, List.length_nil, List.length_replicate, List.length_set, Nm.b_len, be2_len]); omega) (by (try simp only [List.length_take, List.length_drop, List.length_append, List.length_cons, List.length_nil, List.length_replicate, List.length_set, Nm.b_len, be2_len]); omega) hE.size (fun v13_5 w13_5 o13_5 g13_5 f13_5 sv13_5 => ?_))
            have zv7_5_v13_5 : ∀ k, Value.ownBlock v7_5 = some k → Value.ownBlock v13_5 ≠ some k := fun k hk2 hk => (sv13_5 _ hk).elim (fun h => zv7_5_r9 k hk2 h) (fun h => absurd h (Nat.not_le.2 (own_lt ov7_5.1 hk2)))
            have zv13_5_v7_5 := fun k hk hk2 => zv7_5_v13_5 k hk2 hk
            have zv7_11_v13_5 : ∀ k, Value.ownBlock v7_11 = some k → Value.ownBlock v13_5 ≠ some k := fun k hk2 hk => (sv13_5 _ hk).elim (fun h => zv7_11_r9 k hk2 h) (fun h => absurd h (Nat.not_le.2 (own_lt ov7_11.1 hk2)))
            have zv13_5_v7_11 := fun k hk hk2 => zv7_11_v13_5 k hk2 hk
            have zv13_4_v13_5 : ∀ k, Value.ownBlock v13_4 = some k → Value.ownBlock v13_5 ≠ some k := fun k hk2 hk => (sv13_5 _ hk).elim (fun h => zv13_4_r9 k hk2 h) (fun h => absurd h (Nat.not_le.2 (own_lt o13_4.1 hk2)))
            have zv13_5_v13_4 := fun k hk hk2 => zv13_4_v13_5 k hk2 hk
            replace hE := hE.grown g13_5 (fun k hk => own_ge or9.1 hk)
            replace ov7_5 := ov7_5.grown g13_5 (zv7_5_r9) f13_5
            replace ov7_11 := ov7_11.grown g13_5 (zv7_11_r9) f13_5
            replace o13_4 := o13_4.grown g13_5 (zv13_4_r9) f13_5
            replace k13_3 := k13_3.fb f13_5
            refine L (D_v (R_assign rfl) ?_)
            refine S_nil ?_
            refine T_tn ?_
            refine W_region ?_
            refine L (D_v (R_move q8) ?_)
            refine L (D_v (R_sliceLo (i := 1) Try.underlying46 Try.sizeOf53 rfl rfl (ov7_11.ls.via cb).1 (by (try simp only [List.length_take, List.length_drop, List.length_append, List.length_cons, List.length_nil, List.length_replicate, List.length_set, Nm.b_len, be2_len]); omega)) ?_)
            refine L (D_v (R_assign rfl) ?_)
            refine S_nil ?_
            refine T_bn ?_
            refine T_bn ?_
            refine T_tn ?_
            refine ⟨_, _, ?_, rfl, va, ya, (cutV vb (Cd.sz cS) (1) ((yb).length)), (((yb).drop (1)).take ((yb).length - 1)), _, _, rfl, q7, rfl, rfl, hE, ov7_5, ov7_11, o13_5, zv7_5_v13_5, zv7_11_v13_5, ?_, ?_, ?_⟩
            all_goals first | omega | exact ca | exact cb | exact ca.cut (by omega) (Nat.le_refl _) | exact cb.cut (by omega) (Nat.le_refl _) | (simp only [List.length_append, List.length_cons, List.length_nil, List.length_take, List.length_drop]; omega)
          ·
            have la : 0 < ya.length := by (revert c5 l12; generalize ya.length = m9; generalize yb.length = k9; intro h9 h8; simp at h8; omega)
            have ka := ((ov7_5.ls.via ca)).get (getD_some (d := Sg.zero) la)
            have kb := ((ov7_11.ls.via cb)).get (getD_some (d := Sg.zero) lb)
            refine wp_seq ?_
            refine W_draw mixed (by kernel_rfl) ?_
            refine Q_v (fun w hw => R_move q7) ?_
            refine Q_v (fun w hw => R_elAddr (i := 0) Try.underlying46 Try.sizeOf53 rfl rfl ((ov7_5.ls.ext hw).via ca).1 (by first | omega | (revert hb; generalize ya.length = m9; generalize yb.length = k9; intro hb; simp at hb; omega) | (revert hb hg; generalize ya.length = m9; generalize yb.length = k9; intro hb hg; simp at hb hg; omega))) ?_
            refine Q_v (fun w hw => R_fieldEl (k := 0 * 23) Try.runUnderlying53 rfl Try.sizeOf31 ((ov7_5.ls.ext hw).via ca).1 (lel_ltz (C := cS) (s := 23) rfl (by decide) (getD_some (d := Sg.zero) (by first | omega | (revert hb; generalize ya.length = m9; generalize yb.length = k9; intro hb; simp at hb; omega) | (revert hb hg; generalize ya.length = m9; generalize yb.length = k9; intro hb hg; simp at hb hg; omega)))) rfl) ?_
            refine Q_v (fun w hw => R_ldC (C := cS) (i := 0) (k := 22) (y := ((ya).getD (0) Sg.zero)) (u := (.slice (((ya).getD (0) Sg.zero)).A (((ya).getD (0) Sg.zero)).n (((ya).getD (0) Sg.zero)).c)) Try.isAgg31 rfl ((ov7_5.ls.ext hw).via ca) (getD_some (d := Sg.zero) (by first | omega | (revert hb; generalize ya.length = m9; generalize yb.length = k9; intro hb; simp at hb; omega) | (revert hb hg; generalize ya.length = m9; generalize yb.length = k9; intro hb hg; simp at hb hg; omega))) (by decide) rfl) ?_
            refine Q_v (fun w hw => R_str (b := (((ya).getD (0) Sg.zero)).sig) rfl (ka.fb (Fb.ext hw)).bs) ?_
            refine Q_v (fun w hw => R_move q8) ?_
            refine Q_v (fun w hw => R_elAddr (i := 0) Try.underlying46 Try.sizeOf53 rfl rfl ((ov7_11.ls.ext hw).via cb).1 (by first | omega | (revert hb; generalize ya.length = m9; generalize yb.length = k9; intro hb; simp at hb; omega) | (revert hb hg; generalize ya.length = m9; generalize yb.length = k9; intro hb hg; simp at hb hg; omega))) ?_
            refine Q_v (fun w hw => R_fieldEl (k := 0 * 23) Try.runUnderlying53 rfl Try.sizeOf31 ((ov7_11.ls.ext hw).via cb).1 (lel_ltz (C := cS) (s := 23) rfl (by decide) (getD_some (d := Sg.zero) (by first | omega | (revert hb; generalize ya.length = m9; generalize yb.length = k9; intro hb; simp at hb; omega) | (revert hb hg; generalize ya.length = m9; generalize yb.length = k9; intro hb hg; simp at hb hg; omega)))) rfl) ?_
            refine Q_v (fun w hw => R_ldC (C := cS) (i := 0) (k := 22) (y := ((yb).getD (0) Sg.zero)) (u := (.slice (((yb).getD (0) Sg.zero)).A (((yb).getD (0) Sg.zero)).n (((yb).getD (0) Sg.zero)).c)) Try.isAgg31 rfl ((ov7_11.ls.ext hw).via cb) (getD_some (d := Sg.zero) (by first | omega | (revert hb; generalize ya.length = m9; generalize yb.length = k9; intro hb; simp at hb; omega) | (revert hb hg; generalize ya.length = m9; generalize yb.length = k9; intro hb hg; simp at hb hg; omega))) (by decide) rfl) ?_
            refine Q_v (fun w hw => R_str (b := (((yb).getD (0) Sg.zero)).sig) rfl (kb.fb (Fb.ext hw)).bs) ?_
            refine Q_v (fun w hw => R_leqStr (a := (((ya).getD (0) Sg.zero)).sig) (b := (((yb).getD (0) Sg.zero)).sig) rfl rfl) ?_
            refine Q_v (fun w hw => R_assign rfl) ?_
            refine Q_nil (fun w13_99 e13_99 => ?_)
            replace hE := hE.trans e13_99
            replace ov7_5 := ov7_5.ext e13_99
            replace ov7_11 := ov7_11.ext e13_99
            replace or9 := or9.ext e13_99
            replace ka := ka.fb (Fb.ext e13_99)
            replace kb := kb.fb (Fb.ext e13_99)
            refine T_tn ?_
            refine W_if rfl (fun c6 => ?_) (fun c6 => ?_)
            ·
              refine W_region ?_
              refine L (D_v (R_move q8) ?_)
              refine L (D_v (R_sliceLo (i := 1) Try.underlying46 Try.sizeOf53 rfl rfl (ov7_11.ls.via cb).1 (by (try simp only [List.length_take, List.length_drop, List.length_append, List.length_cons, List.length_nil, List.length_replicate, List.length_set, Nm.b_len, be2_len]); omega)) ?_)
              refine L (D_v (R_assign rfl) ?_)
              refine S_nil ?_
              refine T_bn ?_
              refine T_bn ?_
              refine T_tn ?_
              refine ⟨_, _, ?_, rfl, va, ya, (cutV vb (Cd.sz cS) (1) ((yb).length)), (((yb).drop (1)).take ((yb).length - 1)), _, _, rfl, q7, rfl, q9, hE, ov7_5, ov7_11, or9, zv7_5_r9, zv7_11_r9, ?_, ?_, ?_⟩
              all_goals first | omega | exact ca | exact cb | exact ca.cut (by omega) (Nat.le_refl _) | exact cb.cut (by omega) (Nat.le_refl _) | (simp only [List.length_append, List.length_cons, List.length_nil, List.length_take, List.length_drop]; omega)
            ·
              refine W_region ?_
              refine L (D_v (R_move q7) ?_)
              refine L (D_v (R_sliceLo (i := 1) Try.underlying46 Try.sizeOf53 rfl rfl (ov7_5.ls.via ca).1 (by (try simp only [List.length_take, List.length_drop, List.length_append, List.length_cons, List.length_nil, List.length_replicate, List.length_set, Nm.b_len, be2_len]); omega)) ?_)
              refine L (D_v (R_assign rfl) ?_)
              refine S_nil ?_
              refine T_bn ?_
              refine T_bn ?_
              refine T_tn ?_
              refine ⟨_, _, ?_, rfl, (cutV va (Cd.sz cS) (1) ((ya).length)), (((ya).drop (1)).take ((ya).length - 1)), vb, yb, _, _, rfl, rfl, q8, q9, hE, ov7_5, ov7_11, or9, zv7_5_r9, zv7_11_r9, ?_, ?_, ?_⟩
              all_goals first | omega | exact ca | exact cb | exact ca.cut (by omega) (Nat.le_refl _) | exact cb.cut (by omega) (Nat.le_refl _) | (simp only [List.length_append, List.length_cons, List.length_nil, List.length_take, List.length_drop]; omega)
      ·
        refine wp_exit ?_
        refine T_te ?_
        refine T_te ?_
        refine T_be ?_
        refine T_tn ?_
        refine wp_seq ?_
        refine W_region ?_
        refine L (D_v (R_move q9) ?_)
        refine L (D_v (R_assign rfl) ?_)
        refine S_nil ?_
        refine T_tn ?_
        refine wp_ret ?_
        refine ret1 (v := r9) rfl rfl ⟨_, rfl, hE, ?_⟩
        exact ⟨_, or9, by first | omega | (simp only [List.length_append, List.length_nil] at *; omega)⟩

theorem c65f (F : Nat) : ∀ (lo : Nat) (v : Value) (xs : List Sg) (w : World), xs.length < F → lo ≤ w.heap.size → xs.length ≤ 1000000 → Ls cS lo w v xs → (∀ x ∈ xs, x.sig.length ≤ 140737488355328) → Calls Try.prog 65 [v].toArray w (RetE w fun r w' => ∃ ys, Ow cS lo w.heap.size w' r ys ∧ ys.length ≤ xs.length) := by
  induction F with
  | zero => exact fun lo v xs w hF => absurd hF (Nat.not_lt_zero _)
  | succ F ih => exact fun lo v xs w hF => c65s F ih lo v xs w hF

theorem c65 (lo : Nat) (v : Value) (xs : List Sg) (w : World) (hlo : lo ≤ w.heap.size) (hn : xs.length ≤ 1000000) (h : Ls cS lo w v xs) (hsl : ∀ x ∈ xs, x.sig.length ≤ 140737488355328) : Calls Try.prog 65 [v].toArray w (RetE w fun r w' => ∃ ys, Ow cS lo w.heap.size w' r ys ∧ ys.length ≤ xs.length) := c65f (xs.length + 1) lo v xs w (Nat.lt_succ_self _) hlo hn h hsl

-- forkledger/forkledgerref6.Verified
set_option maxRecDepth 4000 in
set_option maxHeartbeats 1500000 in
theorem c93 (vk : Value) (keys : List Nm) (lo : Nat) (v : Value) (xs : List Sg) (w : World) (hk : Ls cN w.heap.size w vk keys) (hlo : lo ≤ w.heap.size) (hn : xs.length ≤ 1000000) (h : Ls cS lo w v xs) : Calls Try.prog 93 [vk, v].toArray w (RetE w fun r w' => ∃ ys, Ow cS lo w.heap.size w' r ys ∧ ys.length ≤ xs.length) := by
  refine enter Try.func93 Try.ntmps93 rfl rfl ?_
  have hE := Ext.refl w
  refine wp_seq ?_
  refine W_region ?_
  refine L (D_v (R_assign rfl) ?_)
  refine S_nil ?_
  refine T_tn ?_
  refine wp_seq ?_
  refine W_region ?_
  refine L (D_v (R_assign rfl) ?_)
  refine S_nil ?_
  refine T_tn ?_
  refine wp_seq ?_
  refine wp_seq ?_
  refine W_region ?_
  refine L (D_v (R_assign rfl) ?_)
  refine S_nil ?_
  refine T_tn ?_
  refine wp_block ?_
  refine W_loop (fun mz g W => ∃ (i : Nat) (ys : List Sg) (r5 : Value), mz = xs.length - i ∧ g 0 = vk ∧ g 1 = v ∧ g 5 = r5 ∧ g 6 = i64 ((i : Nat) : Int) ∧ Ext w W ∧ Ow cS lo w.heap.size W r5 ys ∧ i ≤ xs.length ∧ ys.length ≤ i ∧ (∀ x ∈ ys, x.sig.length ≤ 140737488355328)) ⟨0, [], _, rfl, rfl, rfl, rfl, rfl, hE, (Ow.nil cS lo _ _), (Nat.zero_le _), (by simp), (fun x hx => absurd hx (by simp))⟩ ?_
  rintro mz f4 w4l ⟨i, ys, r5, hm, q0, q1, q5, q6, hE, or5, hi, hl, hs⟩
  refine wp_seq ?_
  refine wp_seq ?_
  refine W_region ?_
  refine L (D_v (R_move q6) ?_)
  refine L (D_v (R_move q1) ?_)
  refine L (D_v (R_len Try.underlying46 rfl (h.ext hE).1) ?_)
  refine L (D_v (R_lssI rfl rfl) ?_)
  refine S_nil ?_
  refine T_tn ?_
  refine W_if rfl (fun c1 => ?_) (fun c1 => ?_)
  ·
    have lk : i < xs.length := by simp at c1; omega
    refine wp_skip ?_
    refine T_tn ?_
    refine wp_seq ?_
    refine wp_block ?_
    refine wp_seq ?_
    refine W_region ?_
    refine L (D_v (R_move q0) ?_)
    refine L (D_v (R_move q1) ?_)
    refine L (D_v (R_move q6) ?_)
    refine L (D_v (R_elAddr (i := i) Try.underlying46 Try.sizeOf53 rfl rfl (h.ext hE).1 (by (try simp only [List.length_take, List.length_drop, List.length_append, List.length_cons, List.length_nil, List.length_replicate, List.length_set, Nm.b_len, be2_len]); omega)) ?_)
    have k6_4 := ((h.ext hE)).get (getD_some (d := Sg.zero) (by (try simp only [List.length_take, List.length_drop, List.length_append, List.length_cons, List.length_nil, List.length_replicate, List.length_set, Nm.b_len, be2_len]); omega))
    refine L (D_v (R_ldL (C := cS) (i := i) (y := ((xs).getD (i) Sg.zero)) Try.isAgg53 Try.sizeOf53 rfl (h.ext hE) (getD_some (d := Sg.zero) (by (try simp only [List.length_take, List.length_drop, List.length_append, List.length_cons, List.length_nil, List.length_replicate, List.length_set, Nm.b_len, be2_len]); omega))) ?_)
    refine L (D_call (R_callF Try.call91 rfl rfl) (c91 vk (keys) (((xs).getD (i) Sg.zero)) _ ((hk.ext hE).lev fun _ _ _ => trivial) (k6_4.up (Nat.le_trans hlo hE.size))) (fun w6_5 e6_5 => ?_))
    replace hE := hE.trans e6_5
    replace or5 := or5.ext e6_5
    replace k6_4 := k6_4.fb (Fb.ext e6_5)
    refine S_nil ?_
    refine T_tn ?_
    refine W_if rfl (fun c2 => ?_) (fun c2 => ?_)
    ·
      have hv := verK_sig c2
      refine W_region ?_
      refine L (D_v (R_move q5) ?_)
      refine L (D_v (R_move q1) ?_)
      refine L (D_v (R_move q6) ?_)
      refine L (D_v (R_elAddr (i := i) Try.underlying46 Try.sizeOf53 rfl rfl (h.ext hE).1 (by (try simp only [List.length_take, List.length_drop, List.length_append, List.length_cons, List.length_nil, List.length_replicate, List.length_set, Nm.b_len, be2_len]); omega)) ?_)
      have k7_4 := ((h.ext hE)).get (getD_some (d := Sg.zero) (by (try simp only [List.length_take, List.length_drop, List.length_append, List.length_cons, List.length_nil, List.length_replicate, List.length_set, Nm.b_len, be2_len]); omega))
      refine L (D_v (R_ldL (C := cS) (i := i) (y := ((xs).getD (i) Sg.zero)) Try.isAgg53 Try.sizeOf53 rfl (h.ext hE) (getD_some (d := Sg.zero) (by (try simp only [List.length_take, List.length_drop, List.length_append, List.length_cons, List.length_nil, List.length_replicate, List.length_set, Nm.b_len, be2_len]); omega))) ?_)
      refine L (D_buildL1 (C := cS) (lo := lo) (y := ((xs).getD (i) Sg.zero)) Try.underlying46 Try.sizeOf53 Try.zeroValue53 (mapp1 rfl) (by decide) k7_4 (fun v7_5 w7_5 o7_5 e7_5 => ?_))
      have zr5_v7_5 := own_apart or5.1 o7_5.1
      have zv7_5_r5 := fun k hk hk2 => zr5_v7_5 k hk2 hk
      replace o7_5 := o7_5.low hE.size
      replace hE := hE.trans e7_5
      replace or5 := or5.ext e7_5
      replace k6_4 := k6_4.fb (Fb.ext e7_5)
      replace k7_4 := k7_4.fb (Fb.ext e7_5)
      refine L (D_appendL elt53 Try.underlying46 rfl rfl or5 hlo o7_5.ls (by (try simp only [List.length_take, List.length_drop, List.length_append, List.length_cons, List.length_nil, List.length_replicate, List.length_set, Nm.b_len, be2_len]); omega) (by (try simp only [List.length_take, List.length_drop, List.length_append, List.length_cons, List.length_nil, List.length_replicate, List.length_set, Nm.b_len, be2_len]); omega) hE.size (fun v7_6 w7_6 o7_6 g7_6 f7_6 sv7_6 => ?_))
      have zv7_5_v7_6 : ∀ k, Value.ownBlock v7_5 = some k → Value.ownBlock v7_6 ≠ some k := fun k hk2 hk => (sv7_6 _ hk).elim (fun h => zv7_5_r5 k hk2 h) (fun h => absurd h (Nat.not_le.2 (own_lt o7_5.1 hk2)))
      have zv7_6_v7_5 := fun k hk hk2 => zv7_5_v7_6 k hk2 hk
      replace hE := hE.grown g7_6 (fun k hk => own_ge or5.1 hk)
      replace o7_5 := o7_5.grown g7_6 (zv7_5_r5) f7_6
      replace k6_4 := k6_4.fb f7_6
      replace k7_4 := k7_4.fb f7_6
      refine L (D_v (R_assign rfl) ?_)
      refine S_nil ?_
      refine T_bn ?_
      refine T_tn ?_
      refine W_region ?_
      refine L (D_v (R_move q6) ?_)
      refine L (D_v (R_addN (m := i) (j := 1) rfl rfl (by (try simp only [List.length_take, List.length_drop, List.length_append, List.length_cons, List.length_nil, List.length_replicate, List.length_set, Nm.b_len, be2_len]); omega)) ?_)
      refine L (D_v (R_assign rfl) ?_)
      refine S_nil ?_
      refine T_tn ?_
      refine ⟨_, _, ?_, rfl, i + 1, _, _, rfl, q0, q1, rfl, rfl, hE, o7_6, ?_, ?_, ?_⟩
      all_goals first | omega | exact hs | (simp only [List.length_append, List.length_cons, List.length_nil]; omega) | (intro x hx; exact (List.mem_append.1 hx).elim (hs x) (fun h1 => by rw [List.mem_singleton.1 h1]; exact hv))
    ·
      refine wp_skip ?_
      refine T_bn ?_
      refine T_tn ?_
      refine W_region ?_
      refine L (D_v (R_move q6) ?_)
      refine L (D_v (R_addN (m := i) (j := 1) rfl rfl (by (try simp only [List.length_take, List.length_drop, List.length_append, List.length_cons, List.length_nil, List.length_replicate, List.length_set, Nm.b_len, be2_len]); omega)) ?_)
      refine L (D_v (R_assign rfl) ?_)
      refine S_nil ?_
      refine T_tn ?_
      refine ⟨_, _, ?_, rfl, i + 1, _, _, rfl, q0, q1, q5, rfl, hE, or5, ?_, ?_, ?_⟩
      all_goals first | omega | exact hs | (simp only [List.length_append, List.length_cons, List.length_nil]; omega) | (intro x hx; exact (List.mem_append.1 hx).elim (hs x) (fun h1 => by rw [List.mem_singleton.1 h1]; exact hv))
  ·
    have lk : ¬ i < xs.length := by simp at c1; omega
    refine wp_exit ?_
    refine T_te ?_
    refine T_te ?_
    refine T_be ?_
    refine T_tn ?_
    refine wp_seq ?_
    refine W_region ?_
    refine L (D_v (R_move q5) ?_)
    refine L (D_callE (R_callF Try.call65 rfl rfl) (c65 lo r5 (ys) _ (Nat.le_trans hlo hE.size) (by (try simp only [List.length_take, List.length_drop, List.length_append, List.length_cons, List.length_nil, List.length_replicate, List.length_set, Nm.b_len, be2_len]); omega) or5.ls hs) (fun v6_1 w6_1 e6_1 p6_1 => ?_))
    obtain ⟨y6_1, o6_1, n6_1⟩ := p6_1
    have zr5_v6_1 := own_apart or5.1 o6_1.1
    have zv6_1_r5 := fun k hk hk2 => zr5_v6_1 k hk2 hk
    replace o6_1 := o6_1.low hE.size
    replace hE := hE.trans e6_1
    replace or5 := or5.ext e6_1
    refine L (D_v (R_assign rfl) ?_)
    refine S_nil ?_
    refine T_tn ?_
    refine wp_ret ?_
    refine ret1 (v := v6_1) rfl rfl ⟨_, rfl, hE, ?_⟩
    exact ⟨_, o6_1, by omega⟩

-- forkledger/forkledgerref6.FindIn
set_option maxRecDepth 4000 in
set_option maxHeartbeats 1500000 in
theorem c92 (lo : Nat) (v : Value) (xs : List Sg) (w : World) (hlo : lo ≤ w.heap.size) (hn : xs.length ≤ 1000000) (h : Ls cS lo w v xs) : Calls Try.prog 92 [v].toArray w (RetE w fun r w' => ∃ es, Ow cE lo w.heap.size w' r es) := by
  refine enter Try.func92 Try.ntmps92 rfl rfl ?_
  have hE := Ext.refl w
  refine wp_seq ?_
  refine W_region ?_
  refine L (D_v (R_assign rfl) ?_)
  refine S_nil ?_
  refine T_tn ?_
  refine wp_seq ?_
  refine W_region ?_
  refine L (D_v (R_assign rfl) ?_)
  refine S_nil ?_
  refine T_tn ?_
  refine wp_seq ?_
  refine wp_seq ?_
  refine W_region ?_
  refine L (D_v (R_assign rfl) ?_)
  refine S_nil ?_
  refine T_tn ?_
  refine wp_block ?_
  refine W_loop (fun mz g W => ∃ (i : Nat) (es : List Ev) (r3 : Value), mz = 10 - i ∧ g 0 = v ∧ g 3 = r3 ∧ g 4 = i64 ((i : Nat) : Int) ∧ Ext w W ∧ Ow cE lo w.heap.size W r3 es ∧ i ≤ 10 ∧ es.length ≤ i) ⟨0, [], _, rfl, rfl, rfl, rfl, hE, (Ow.nil cE lo _ _), (Nat.zero_le _), (by simp)⟩ ?_
  rintro mz f4 w4l ⟨i, es, r3, hm, q0, q3, q4, hE, or3, hi, hl⟩
  refine wp_seq ?_
  refine wp_seq ?_
  refine W_region ?_
  refine L (D_v (R_move q4) ?_)
  refine L (D_v (R_lssI rfl rfl) ?_)
  refine S_nil ?_
  refine T_tn ?_
  refine W_if rfl (fun c1 => ?_) (fun c1 => ?_)
  ·
    have lk : i < 10 := by simp at c1; omega
    refine wp_skip ?_
    refine T_tn ?_
    refine wp_seq ?_
    refine wp_block ?_
    refine wp_seq ?_
    refine W_region ?_
    refine L (D_v (R_assign rfl) ?_)
    refine S_nil ?_
    refine T_tn ?_
    refine wp_seq ?_
    refine W_region ?_
    refine L (D_v (R_assign rfl) ?_)
    refine S_nil ?_
    refine T_tn ?_
    refine wp_block ?_
    refine W_loop (fun mz g W => ∃ (j : Nat) (B : Bool) (es2 : List Ev) (r3 : Value), mz = xs.length - j ∧ g 0 = v ∧ g 3 = r3 ∧ g 4 = i64 ((i : Nat) : Int) ∧ g 5 = .bool B ∧ g 6 = i64 ((j : Nat) : Int) ∧ Ext w W ∧ Ow cE lo w.heap.size W r3 es2 ∧ j ≤ xs.length ∧ es2.length ≤ i + 1 ∧ (B = false → es2.length ≤ i)) ⟨0, false, es, _, rfl, q0, q3, q4, rfl, rfl, hE, or3, (Nat.zero_le _), (by omega), (fun _ => hl)⟩ ?_
    rintro mz f8 w8l ⟨j, B, es2, r3, hm, q0, q3, q4, q5, q6, hE, or3, hj, hl2, hB2⟩
    refine wp_seq ?_
    refine wp_seq ?_
    refine W_region ?_
    refine L (D_v (R_move q6) ?_)
    refine L (D_v (R_addN (m := j) (j := 1) rfl rfl (by (try simp only [List.length_take, List.length_drop, List.length_append, List.length_cons, List.length_nil, List.length_replicate, List.length_set, Nm.b_len, be2_len]); omega)) ?_)
    refine L (D_v (R_move q0) ?_)
    refine L (D_v (R_len Try.underlying46 rfl (h.ext hE).1) ?_)
    refine L (D_v (R_lssI rfl rfl) ?_)
    refine L (D_v (R_move rfl) ?_)
    refine L (D_g1 rfl rfl (fun hb => R_move q5) ?_)
    refine L (D_g1 rfl rfl (fun hb => R_not (cgE hb)) ?_)
    refine L (D_v (R_pickA rfl rfl rfl) ?_)
    refine S_nil ?_
    refine T_tn ?_
    refine W_if rfl (fun c2 => ?_) (fun c2 => ?_)
    ·
      have lj : j + 1 < xs.length ∧ B = false := by (revert c2; generalize xs.length = m9; intro h8; simp at h8; exact ⟨by omega, h8.2⟩)
      refine wp_skip ?_
      refine T_tn ?_
      refine wp_seq ?_
      refine wp_block ?_
      refine wp_seq ?_
      refine W_draw mixed (by kernel_rfl) ?_
      refine Q_v (fun w hw => R_move q0) ?_
      refine Q_v (fun w hw => R_move q6) ?_
      refine Q_v (fun w hw => R_elAddr (i := j) Try.underlying46 Try.sizeOf53 rfl rfl (h.ext (hE.trans hw)).1 (by (try simp only [List.length_take, List.length_drop, List.length_append, List.length_cons, List.length_nil, List.length_replicate, List.length_set, Nm.b_len, be2_len]); omega)) ?_
      refine Q_v (fun w hw => R_fieldEl (k := j * 23) Try.runUnderlying53 rfl Try.sizeOf26 (h.ext (hE.trans hw)).1 (lel_ltz (C := cS) (s := 23) rfl (by decide) (getD_some (d := Sg.zero) (by (try simp only [List.length_take, List.length_drop, List.length_append, List.length_cons, List.length_nil, List.length_replicate, List.length_set, Nm.b_len, be2_len]); omega))) rfl) ?_
      refine Q_v (fun w hw => R_fieldEl (k := j * 23 + 0) Try.runUnderlying26 rfl Try.sizeOf3 (h.ext (hE.trans hw)).1 (lel_lt0 (C := cS) (s := 23) rfl 0 (by decide) (getD_some (d := Sg.zero) (by (try simp only [List.length_take, List.length_drop, List.length_append, List.length_cons, List.length_nil, List.length_replicate, List.length_set, Nm.b_len, be2_len]); omega))) rfl) ?_
      refine Q_v (fun w hw => R_ldC (C := cS) (i := j) (k := 4) (y := ((xs).getD (j) Sg.zero)) (u := i64 (((xs).getD (j) Sg.zero)).vote.signer) Try.isAgg3 rfl (h.ext (hE.trans hw)) (getD_some (d := Sg.zero) (by (try simp only [List.length_take, List.length_drop, List.length_append, List.length_cons, List.length_nil, List.length_replicate, List.length_set, Nm.b_len, be2_len]); omega)) (by decide) rfl) ?_
      refine Q_v (fun w hw => R_move q4) ?_
      refine Q_v (fun w hw => R_eqlI rfl rfl) ?_
      refine Q_v (fun w hw => R_move rfl) ?_
      refine Q_g1 rfl rfl (fun hb w hw => R_move q0) ?_
      refine Q_g1 rfl rfl (fun hb w hw => R_move q6) ?_
      refine Q_g1 rfl rfl (fun hb w hw => R_elAddr (i := j) Try.underlying46 Try.sizeOf53 (cgE hb) (cgE hb) (h.ext (hE.trans hw)).1 (by (try simp only [List.length_take, List.length_drop, List.length_append, List.length_cons, List.length_nil, List.length_replicate, List.length_set, Nm.b_len, be2_len]); omega)) ?_
      refine Q_g1 rfl rfl (fun hb w hw => R_fieldEl (k := j * 23) Try.runUnderlying53 rfl Try.sizeOf26 (h.ext (hE.trans hw)).1 (lel_ltz (C := cS) (s := 23) rfl (by decide) (getD_some (d := Sg.zero) (by (try simp only [List.length_take, List.length_drop, List.length_append, List.length_cons, List.length_nil, List.length_replicate, List.length_set, Nm.b_len, be2_len]); omega))) (cgE hb)) ?_
      refine Q_g1 rfl rfl (fun hb w hw => R_ldP (C := cS) (i := j) (k := 0) (y := ((xs).getD (j) Sg.zero)) (c := ((((xs).getD (j) Sg.zero)).vote).l) Try.isAgg26 Try.sizeOf26 (cgE hb) (h.ext (hE.trans hw)) (getD_some (d := Sg.zero) (by (try simp only [List.length_take, List.length_drop, List.length_append, List.length_cons, List.length_nil, List.length_replicate, List.length_set, Nm.b_len, be2_len]); omega)) (by decide) (by decide) rfl) ?_
      refine Q_g1 rfl rfl (fun hb w hw => R_move q0) ?_
      refine Q_g1 rfl rfl (fun hb w hw => R_move q6) ?_
      refine Q_g1 rfl rfl (fun hb w hw => R_addN (m := j) (j := 1) (cgE hb) rfl (by (try simp only [List.length_take, List.length_drop, List.length_append, List.length_cons, List.length_nil, List.length_replicate, List.length_set, Nm.b_len, be2_len]); omega)) ?_
      refine Q_g1 rfl rfl (fun hb w hw => R_elAddr (i := (j + 1)) Try.underlying46 Try.sizeOf53 (cgE hb) (cgE hb) (h.ext (hE.trans hw)).1 (by (try simp only [List.length_take, List.length_drop, List.length_append, List.length_cons, List.length_nil, List.length_replicate, List.length_set, Nm.b_len, be2_len]); omega)) ?_
      refine Q_g1 rfl rfl (fun hb w hw => R_fieldEl (k := (j + 1) * 23) Try.runUnderlying53 rfl Try.sizeOf26 (h.ext (hE.trans hw)).1 (lel_ltz (C := cS) (s := 23) rfl (by decide) (getD_some (d := Sg.zero) (by (try simp only [List.length_take, List.length_drop, List.length_append, List.length_cons, List.length_nil, List.length_replicate, List.length_set, Nm.b_len, be2_len]); omega))) (cgE hb)) ?_
      refine Q_g1 rfl rfl (fun hb w hw => R_ldP (C := cS) (i := (j + 1)) (k := 0) (y := ((xs).getD ((j + 1)) Sg.zero)) (c := ((((xs).getD ((j + 1)) Sg.zero)).vote).l) Try.isAgg26 Try.sizeOf26 (cgE hb) (h.ext (hE.trans hw)) (getD_some (d := Sg.zero) (by (try simp only [List.length_take, List.length_drop, List.length_append, List.length_cons, List.length_nil, List.length_replicate, List.length_set, Nm.b_len, be2_len]); omega)) (by decide) (by decide) rfl) ?_
      refine Q_gc1 rfl rfl (fun hb w hw => R_callF Try.call32 (mapv2 (cgE hb) (cgE hb)) rfl) (fun hb w hw => c32 ((((xs).getD (j) Sg.zero)).vote) ((((xs).getD ((j + 1)) Sg.zero)).vote) _ ) ?_
      refine Q_v (fun w hw => R_pickA rfl rfl rfl) ?_
      refine Q_nil (fun w10_99 e10_99 => ?_)
      replace hE := hE.trans e10_99
      replace or3 := or3.ext e10_99
      refine T_tn ?_
      refine W_if rfl (fun c3 => ?_) (fun c3 => ?_)
      ·
        refine wp_seq ?_
        refine W_held (fun W => Ext w W ∧ True) mixed (fun w11_99 e11_99 => ?_)
        replace hE := hE.trans e11_99
        replace or3 := or3.ext e11_99
        refine H_take (i := 0) rfl (by kernel_rfl) (by kernel_rfl) (by kernel_rfl) rfl (pq_then (pq_block (pq_then (pq_then (pq_block (pq_block (pq_then (pq_then (pq_block (pq_then pq_body)))))))))) ⟨hE, trivial⟩ rfl (fun w hw => R_move q3) ?_
        refine H_take (i := 1) rfl (by kernel_rfl) (by kernel_rfl) (by kernel_rfl) rfl (pq_then (pq_block (pq_then (pq_then (pq_block (pq_block (pq_then (pq_then (pq_block (pq_then pq_body)))))))))) ⟨hE, trivial⟩ rfl (fun w hw => R_move q0) ?_
        refine H_take (i := 2) rfl (by kernel_rfl) (by kernel_rfl) (by kernel_rfl) rfl (pq_then (pq_block (pq_then (pq_then (pq_block (pq_block (pq_then (pq_then (pq_block (pq_then pq_body)))))))))) ⟨hE, trivial⟩ rfl (fun w hw => R_move q6) ?_
        refine H_take (i := 3) rfl (by kernel_rfl) (by kernel_rfl) (by kernel_rfl) rfl (pq_then (pq_block (pq_then (pq_then (pq_block (pq_block (pq_then (pq_then (pq_block (pq_then pq_body)))))))))) ⟨hE, trivial⟩ rfl (fun w hw => R_elAddr (i := j) Try.underlying46 Try.sizeOf53 rfl rfl (h.ext hw.1).1 (by (try simp only [List.length_take, List.length_drop, List.length_append, List.length_cons, List.length_nil, List.length_replicate, List.length_set, Nm.b_len, be2_len]); omega)) ?_
        refine H_take (i := 4) rfl (by kernel_rfl) (by kernel_rfl) (by kernel_rfl) rfl (pq_then (pq_block (pq_then (pq_then (pq_block (pq_block (pq_then (pq_then (pq_block (pq_then pq_body)))))))))) ⟨hE, trivial⟩ rfl (fun w hw => R_ldL (C := cS) (i := j) (y := ((xs).getD (j) Sg.zero)) Try.isAgg53 Try.sizeOf53 rfl (h.ext hw.1) (getD_some (d := Sg.zero) (by (try simp only [List.length_take, List.length_drop, List.length_append, List.length_cons, List.length_nil, List.length_replicate, List.length_set, Nm.b_len, be2_len]); omega))) ?_
        refine H_take (i := 5) rfl (by kernel_rfl) (by kernel_rfl) (by kernel_rfl) rfl (pq_then (pq_block (pq_then (pq_then (pq_block (pq_block (pq_then (pq_then (pq_block (pq_then pq_body)))))))))) ⟨hE, trivial⟩ rfl (fun w hw => R_move q0) ?_
        refine H_take (i := 6) rfl (by kernel_rfl) (by kernel_rfl) (by kernel_rfl) rfl (pq_then (pq_block (pq_then (pq_then (pq_block (pq_block (pq_then (pq_then (pq_block (pq_then pq_body)))))))))) ⟨hE, trivial⟩ rfl (fun w hw => R_move q6) ?_
        refine H_take (i := 7) rfl (by kernel_rfl) (by kernel_rfl) (by kernel_rfl) rfl (pq_then (pq_block (pq_then (pq_then (pq_block (pq_block (pq_then (pq_then (pq_block (pq_then pq_body)))))))))) ⟨hE, trivial⟩ rfl (fun w hw => R_addN (m := j) (j := 1) rfl rfl (by (try simp only [List.length_take, List.length_drop, List.length_append, List.length_cons, List.length_nil, List.length_replicate, List.length_set, Nm.b_len, be2_len]); omega)) ?_
        refine H_take (i := 8) rfl (by kernel_rfl) (by kernel_rfl) (by kernel_rfl) rfl (pq_then (pq_block (pq_then (pq_then (pq_block (pq_block (pq_then (pq_then (pq_block (pq_then pq_body)))))))))) ⟨hE, trivial⟩ rfl (fun w hw => R_elAddr (i := (j + 1)) Try.underlying46 Try.sizeOf53 rfl rfl (h.ext hw.1).1 (by (try simp only [List.length_take, List.length_drop, List.length_append, List.length_cons, List.length_nil, List.length_replicate, List.length_set, Nm.b_len, be2_len]); omega)) ?_
        refine H_take (i := 9) rfl (by kernel_rfl) (by kernel_rfl) (by kernel_rfl) rfl (pq_then (pq_block (pq_then (pq_then (pq_block (pq_block (pq_then (pq_then (pq_block (pq_then pq_body)))))))))) ⟨hE, trivial⟩ rfl (fun w hw => R_ldL (C := cS) (i := (j + 1)) (y := ((xs).getD ((j + 1)) Sg.zero)) Try.isAgg53 Try.sizeOf53 rfl (h.ext hw.1) (getD_some (d := Sg.zero) (by (try simp only [List.length_take, List.length_drop, List.length_append, List.length_cons, List.length_nil, List.length_replicate, List.length_set, Nm.b_len, be2_len]); omega))) ?_
        have k11_10 : Ev.okf lo w11_99 (⟨((xs).getD (j) Sg.zero), ((xs).getD ((j + 1)) Sg.zero)⟩ : Ev) := ⟨((h.get (getD_some (d := Sg.zero) (by (try simp only [List.length_take, List.length_drop, List.length_append, List.length_cons, List.length_nil, List.length_replicate, List.length_set, Nm.b_len, be2_len]); omega))).fb (Fb.ext hE)), ((h.get (getD_some (d := Sg.zero) (by (try simp only [List.length_take, List.length_drop, List.length_append, List.length_cons, List.length_nil, List.length_replicate, List.length_set, Nm.b_len, be2_len]); omega))).fb (Fb.ext hE))⟩
        refine H_op (i := 10) (by kernel_rfl) rfl rfl (D_v (R_buildS (vs := [(0, .agg (((xs).getD (j) Sg.zero)).l.toArray), (1, .agg (((xs).getD ((j + 1)) Sg.zero)).l.toArray)]) (c := (⟨((xs).getD (j) Sg.zero), ((xs).getD ((j + 1)) Sg.zero)⟩ : Ev).l) Try.runUnderlying55 places55 Try.zeroValue55 (mapp2 rfl rfl) (fill55 _ _)) ⟨⟨hE, trivial⟩, ?_⟩)
        refine H_op (i := 11) (by kernel_rfl) rfl rfl (D_buildL1 (C := cE) (lo := lo) (y := (⟨((xs).getD (j) Sg.zero), ((xs).getD ((j + 1)) Sg.zero)⟩ : Ev)) Try.underlying42 Try.sizeOf55 Try.zeroValue55 (mapp1 rfl) (by decide) k11_10 (fun v11_11 w11_11 o11_11 e11_11 => ?_))
        have zr3_v11_11 := own_apart or3.1 o11_11.1
        have zv11_11_r3 := fun k hk hk2 => zr3_v11_11 k hk2 hk
        replace o11_11 := o11_11.low hE.size
        replace hE := hE.trans e11_11
        replace or3 := or3.ext e11_11
        replace k11_10 := k11_10.fb (Fb.ext e11_11)
        refine ⟨⟨hE, trivial⟩, ?_⟩
        refine H_op (i := 12) (by kernel_rfl) rfl rfl (D_appendL elt55 Try.underlying42 rfl rfl or3 hlo o11_11.ls (by first | omega | (have h9 := hB2 lj.2; simp only [List.length_append, List.length_cons, List.length_nil]; omega)) (by first | omega | (have h9 := hB2 lj.2; simp only [List.length_append, List.length_cons, List.length_nil]; omega)) hE.size (fun v11_12 w11_12 o11_12 g11_12 f11_12 sv11_12 => ?_))
        have zv11_11_v11_12 : ∀ k, Value.ownBlock v11_11 = some k → Value.ownBlock v11_12 ≠ some k := fun k hk2 hk => (sv11_12 _ hk).elim (fun h => zv11_11_r3 k hk2 h) (fun h => absurd h (Nat.not_le.2 (own_lt o11_11.1 hk2)))
        have zv11_12_v11_11 := fun k hk hk2 => zv11_11_v11_12 k hk2 hk
        replace hE := hE.grown g11_12 (fun k hk => own_ge or3.1 hk)
        replace o11_11 := o11_11.grown g11_12 (zv11_11_r3) f11_12
        replace k11_10 := k11_10.fb f11_12
        refine ⟨⟨hE, trivial⟩, ?_⟩
        refine H_take (i := 13) rfl (by kernel_rfl) (by kernel_rfl) (by kernel_rfl) rfl (pq_then (pq_block (pq_then (pq_then (pq_block (pq_block (pq_then (pq_then (pq_block (pq_then pq_body)))))))))) ⟨hE, trivial⟩ rfl (fun w hw => R_assign rfl) ?_
        refine H_done (by kernel_rfl) ?_
        refine T_tn ?_
        refine W_region ?_
        refine L (D_v (R_assign rfl) ?_)
        refine S_nil ?_
        refine T_bn ?_
        refine T_tn ?_
        refine W_region ?_
        refine L (D_v (R_move q6) ?_)
        refine L (D_v (R_addN (m := j) (j := 1) rfl rfl (by (try simp only [List.length_take, List.length_drop, List.length_append, List.length_cons, List.length_nil, List.length_replicate, List.length_set, Nm.b_len, be2_len]); omega)) ?_)
        refine L (D_v (R_assign rfl) ?_)
        refine S_nil ?_
        refine T_tn ?_
        refine ⟨_, _, ?_, rfl, j + 1, _, _, _, rfl, q0, rfl, q4, rfl, rfl, hE, o11_12, ?_, ?_, ?_⟩
        all_goals first | omega | (intro h; first | cases h | exact hB2 h | exact absurd h (by decide)) | (have h9 := hB2 lj.2; simp only [List.length_append, List.length_cons, List.length_nil]; omega)
      ·
        refine wp_skip ?_
        refine T_bn ?_
        refine T_tn ?_
        refine W_region ?_
        refine L (D_v (R_move q6) ?_)
        refine L (D_v (R_addN (m := j) (j := 1) rfl rfl (by (try simp only [List.length_take, List.length_drop, List.length_append, List.length_cons, List.length_nil, List.length_replicate, List.length_set, Nm.b_len, be2_len]); omega)) ?_)
        refine L (D_v (R_assign rfl) ?_)
        refine S_nil ?_
        refine T_tn ?_
        refine ⟨_, _, ?_, rfl, j + 1, _, _, _, rfl, q0, q3, q4, q5, rfl, hE, or3, ?_, ?_, ?_⟩
        all_goals first | omega | (intro h; first | cases h | exact hB2 h | exact absurd h (by decide)) | (have h9 := hB2 lj.2; simp only [List.length_append, List.length_cons, List.length_nil]; omega)
    ·
      refine wp_exit ?_
      refine T_te ?_
      refine T_te ?_
      refine T_be ?_
      refine T_bn ?_
      refine T_tn ?_
      refine W_region ?_
      refine L (D_v (R_move q4) ?_)
      refine L (D_v (R_addN (m := i) (j := 1) rfl rfl (by (try simp only [List.length_take, List.length_drop, List.length_append, List.length_cons, List.length_nil, List.length_replicate, List.length_set, Nm.b_len, be2_len]); omega)) ?_)
      refine L (D_v (R_assign rfl) ?_)
      refine S_nil ?_
      refine T_tn ?_
      refine ⟨_, _, ?_, rfl, i + 1, _, _, rfl, q0, q3, rfl, hE, or3, ?_, ?_⟩
      all_goals first | omega
  ·
    refine wp_exit ?_
    refine T_te ?_
    refine T_te ?_
    refine T_be ?_
    refine T_tn ?_
    refine wp_seq ?_
    refine W_region ?_
    refine L (D_v (R_move q3) ?_)
    refine L (D_v (R_assign rfl) ?_)
    refine S_nil ?_
    refine T_tn ?_
    refine wp_ret ?_
    refine ret1 (v := r3) rfl rfl ⟨_, rfl, hE, ?_⟩
    exact ⟨_, or3⟩

-- forkledger/forkledgerref6.Find
set_option maxRecDepth 4000 in
set_option maxHeartbeats 1500000 in
theorem c47 (vk : Value) (keys : List Nm) (lo : Nat) (v : Value) (xs : List Sg) (w : World) (hk : Ls cN w.heap.size w vk keys) (hlo : lo ≤ w.heap.size) (hn : xs.length ≤ 1000000) (h : Ls cS lo w v xs) : Calls Try.prog 47 [vk, v].toArray w (RetE w fun r w' => ∃ es, Ow cE lo w.heap.size w' r es) := by
  refine enter Try.func47 Try.ntmps47 rfl rfl ?_
  have hE := Ext.refl w
  refine wp_seq ?_
  refine W_region ?_
  refine L (D_v (R_assign rfl) ?_)
  refine S_nil ?_
  refine T_tn ?_
  refine wp_seq ?_
  refine W_region ?_
  refine L (D_v (R_move rfl) ?_)
  refine L (D_v (R_move rfl) ?_)
  refine L (D_callE (R_callF Try.call93 rfl rfl) (c93 vk (keys) lo v (xs) _ ((hk.ext hE).lev fun _ _ _ => trivial) (Nat.le_trans hlo hE.size) (by (try simp only [List.length_take, List.length_drop, List.length_append, List.length_cons, List.length_nil, List.length_replicate, List.length_set, Nm.b_len, be2_len]); omega) (h.ext hE)) (fun v2_2 w2_2 e2_2 p2_2 => ?_))
  obtain ⟨y2_2, o2_2, n2_2⟩ := p2_2
  replace o2_2 := o2_2.low hE.size
  replace hE := hE.trans e2_2
  refine L (D_callE (R_callF Try.call92 rfl rfl) (c92 lo v2_2 (y2_2) _ (Nat.le_trans hlo hE.size) (by (try simp only [List.length_take, List.length_drop, List.length_append, List.length_cons, List.length_nil, List.length_replicate, List.length_set, Nm.b_len, be2_len]); omega) o2_2.ls) (fun v2_3 w2_3 e2_3 p2_3 => ?_))
  obtain ⟨y2_3, o2_3⟩ := p2_3
  replace o2_3 := o2_3.low hE.size
  replace hE := hE.trans e2_3
  replace o2_2 := o2_2.ext e2_3
  refine L (D_v (R_assign rfl) ?_)
  refine S_nil ?_
  refine T_tn ?_
  refine wp_ret ?_
  refine ret1 (v := v2_3) rfl rfl ⟨_, rfl, hE, ?_⟩
  exact ⟨_, o2_3⟩
end Go.Proofs.Yteeopgpgbdhmhaa
