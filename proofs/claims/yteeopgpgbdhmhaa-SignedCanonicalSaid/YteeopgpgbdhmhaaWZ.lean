/- Walks of the functions on bytes: list. No condition. Printed by wip/mkZ.py. -/
import Derived.Test.YteeopgpgbdhmhaaWX
import Derived.Test.YteeopgpgbdhmhaaGm
namespace Go.Proofs.Yteeopgpgbdhmhaa
open Go.RowKit
set_option linter.unusedVariables false
set_option linter.unusedSimpArgs false
attribute [local irreducible] wpList wpO H wpQuiet wpStill Code.wp Exit.then Exit.inBlock bodyPost Code.rounds Calls valid sameKey conflict lessV hless num between
-- forkledger/forkledgerlaw8.list
set_option maxRecDepth 4000 in
set_option maxHeartbeats 1000000 in
theorem c58 (v u : Value) (xs ys : List Sg) (w : World) (hn : xs.length ≤ 1000000) (h : Ls cS w.heap.size w v xs) (hy : Ls cS w.heap.size w u ys) : Calls Try.prog 58 [v, u].toArray w (Ret w (.bool (listS xs ys))) := by
  refine enter Try.func58 Try.ntmps58 rfl rfl ?_
  have hE := Ext.refl w
  refine wp_seq ?_
  refine W_region ?_
  refine L (D_v (R_assign rfl) ?_)
  refine S_nil ?_
  refine T_tn ?_
  refine wp_seq ?_
  refine wp_seq ?_
  refine W_region ?_
  refine L (D_v (R_move rfl) ?_)
  refine L (D_v (R_len Try.underlying46 rfl (h.ext hE).1) ?_)
  refine L (D_v (R_move rfl) ?_)
  refine L (D_v (R_len Try.underlying46 rfl (hy.ext hE).1) ?_)
  refine L (D_v (R_neqI rfl rfl) ?_)
  refine S_nil ?_
  refine T_tn ?_
  refine W_if rfl (fun c1 => ?_) (fun c1 => ?_)
  ·
    have hne : xs.length ≠ ys.length := by simp at c1; omega
    refine wp_seq ?_
    refine W_region ?_
    refine L (D_v (R_assign rfl) ?_)
    refine S_nil ?_
    refine T_tn ?_
    refine wp_ret ?_
    refine T_tr ?_
    refine ret1 (v := .bool _) rfl rfl ⟨?_, hE⟩
    rw [listS_len hne]
  ·
    have hln : xs.length = ys.length := by simp at c1; omega
    refine wp_skip ?_
    refine T_tn ?_
    refine wp_seq ?_
    refine wp_seq ?_
    refine W_region ?_
    refine L (D_v (R_assign rfl) ?_)
    refine S_nil ?_
    refine T_tn ?_
    refine wp_block ?_
    refine W_loop (fun mz g W => ∃ (i : Nat), mz = xs.length - i ∧ g 0 = v ∧ g 1 = u ∧ g 5 = i64 ((i : Nat) : Int) ∧ Ext w W ∧ i ≤ xs.length ∧ (xs.take i).map Sg.p = (ys.take i).map Sg.p) ⟨0, rfl, rfl, rfl, rfl, hE, (Nat.zero_le _), (by simp)⟩ ?_
    rintro mz f4 w4l ⟨i, hm, q0, q1, q5, hE, hi, hall⟩
    refine wp_seq ?_
    refine wp_seq ?_
    refine W_region ?_
    refine L (D_v (R_move q5) ?_)
    refine L (D_v (R_move q0) ?_)
    refine L (D_v (R_len Try.underlying46 rfl (h.ext hE).1) ?_)
    refine L (D_v (R_lssI rfl rfl) ?_)
    refine S_nil ?_
    refine T_tn ?_
    refine W_if rfl (fun c2 => ?_) (fun c2 => ?_)
    ·
      have lk : i < xs.length := by simp at c2; omega
      have lk2 : i < ys.length := by omega
      refine wp_skip ?_
      refine T_tn ?_
      refine wp_seq ?_
      refine wp_block ?_
      refine wp_seq ?_
      refine W_draw mixed (by kernel_rfl) ?_
      refine Q_v (fun w hw => R_move q0) ?_
      refine Q_v (fun w hw => R_move q5) ?_
      refine Q_v (fun w hw => R_elAddr (i := i) Try.underlying46 Try.sizeOf53 rfl rfl (h.ext (hE.trans hw)).1 (by (try simp only [List.length_take, List.length_drop, List.length_append, List.length_cons, List.length_nil, List.length_replicate, List.length_set, Nm.b_len, be2_len]); omega)) ?_
      refine Q_v (fun w hw => R_ldL (C := cS) (i := i) (y := ((xs).getD (i) Sg.zero)) Try.isAgg53 Try.sizeOf53 rfl (h.ext (hE.trans hw)) (getD_some (d := Sg.zero) (by (try simp only [List.length_take, List.length_drop, List.length_append, List.length_cons, List.length_nil, List.length_replicate, List.length_set, Nm.b_len, be2_len]); omega))) ?_
      refine Q_v (fun w hw => R_move q1) ?_
      refine Q_v (fun w hw => R_move q5) ?_
      refine Q_v (fun w hw => R_elAddr (i := i) Try.underlying46 Try.sizeOf53 rfl rfl (hy.ext (hE.trans hw)).1 (by (try simp only [List.length_take, List.length_drop, List.length_append, List.length_cons, List.length_nil, List.length_replicate, List.length_set, Nm.b_len, be2_len]); omega)) ?_
      refine Q_v (fun w hw => R_ldL (C := cS) (i := i) (y := ((ys).getD (i) Sg.zero)) Try.isAgg53 Try.sizeOf53 rfl (hy.ext (hE.trans hw)) (getD_some (d := Sg.zero) (by (try simp only [List.length_take, List.length_drop, List.length_append, List.length_cons, List.length_nil, List.length_replicate, List.length_set, Nm.b_len, be2_len]); omega))) ?_
      refine Q_call (fun w hw => R_callF Try.call55 rfl rfl) (fun w hw => c55 (((xs).getD (i) Sg.zero)) (((ys).getD (i) Sg.zero)) _ (((h.get (getD_some (d := Sg.zero) (by (try simp only [List.length_take, List.length_drop, List.length_append, List.length_cons, List.length_nil, List.length_replicate, List.length_set, Nm.b_len, be2_len]); omega))).fb (Fb.ext (hE.trans hw))).up (Nat.le_trans (Nat.le_refl _) (hE.trans hw).size)) (((hy.get (getD_some (d := Sg.zero) (by (try simp only [List.length_take, List.length_drop, List.length_append, List.length_cons, List.length_nil, List.length_replicate, List.length_set, Nm.b_len, be2_len]); omega))).fb (Fb.ext (hE.trans hw))).up (Nat.le_trans (Nat.le_refl _) (hE.trans hw).size))) ?_
      refine Q_v (fun w hw => R_not rfl) ?_
      refine Q_nil (fun w6_99 e6_99 => ?_)
      replace hE := hE.trans e6_99
      refine T_tn ?_
      refine W_if rfl (fun c3 => ?_) (fun c3 => ?_)
      ·
        have hsm : sameS (xs.getD i Sg.zero).p (ys.getD i Sg.zero).p = false := by simpa using c3
        refine wp_seq ?_
        refine W_region ?_
        refine L (D_v (R_assign rfl) ?_)
        refine S_nil ?_
        refine T_tn ?_
        refine wp_ret ?_
        refine T_br ?_
        refine T_tr ?_
        refine T_tr ?_
        refine T_br ?_
        refine T_tr ?_
        refine ret1 (v := .bool _) rfl rfl ⟨?_, hE⟩
        rw [listS_at lk lk2 hsm]
      ·
        have hsm : sameS (xs.getD i Sg.zero).p (ys.getD i Sg.zero).p = true := by simpa using c3
        refine wp_skip ?_
        refine T_bn ?_
        refine T_tn ?_
        refine W_region ?_
        refine L (D_v (R_move q5) ?_)
        refine L (D_v (R_addN (m := i) (j := 1) rfl rfl (by (try simp only [List.length_take, List.length_drop, List.length_append, List.length_cons, List.length_nil, List.length_replicate, List.length_set, Nm.b_len, be2_len]); omega)) ?_)
        refine L (D_v (R_assign rfl) ?_)
        refine S_nil ?_
        refine T_tn ?_
        refine ⟨_, _, ?_, rfl, i + 1, rfl, q0, q1, rfl, hE, ?_, ?_⟩
        all_goals first | omega | exact listS_next hall lk lk2 hsm
    ·
      obtain rfl : i = xs.length := by have h9 := of_decide_eq_false c2; omega
      refine wp_exit ?_
      refine T_te ?_
      refine T_te ?_
      refine T_be ?_
      refine T_tn ?_
      refine wp_seq ?_
      refine W_region ?_
      refine L (D_v (R_assign rfl) ?_)
      refine S_nil ?_
      refine T_tn ?_
      refine wp_ret ?_
      refine ret1 (v := .bool _) rfl rfl ⟨?_, hE⟩
      rw [listS_all hln hall]
end Go.Proofs.Yteeopgpgbdhmhaa
