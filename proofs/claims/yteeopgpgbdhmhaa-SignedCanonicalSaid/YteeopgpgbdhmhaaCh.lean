/- Cuts of rows, an order of strings, lengths of what Build returns: what the law CheckerChecks wants beside the walks. No condition. -/
import Derived.Test.YteeopgpgbdhmhaaOn
import Derived.Test.YteeopgpgbdhmhaaWI
import Derived.Test.YteeopgpgbdhmhaaPm
import Derived.Deep.DeepAppendWide
namespace Go.Proofs.Yteeopgpgbdhmhaa
open Go.RowKit Go.Lib
set_option linter.unusedVariables false
set_option linter.unusedSimpArgs false
/-- Slice va reads as ys wherever v reads as xs. -/
def CutOf {α : Type} (C : Cd α) (v : Value) (xs : List α) (va : Value) (ys : List α) : Prop := (∀ W, Rs W v xs.length C.sz (C.cs xs) → Rs W va ys.length C.sz (C.cs ys)) ∧ (∀ y ∈ ys, y ∈ xs) ∧ ys.length ≤ xs.length
section
variable {α : Type} {C : Cd α} {lo : Nat} {w : World} {v va : Value} {xs ys : List α}
theorem CutOf.refl (C : Cd α) (v : Value) (xs : List α) : CutOf C v xs v xs := ⟨fun _ h => h, fun _ h => h, Nat.le_refl _⟩
theorem Ls.via (h : Ls C lo w v xs) (c : CutOf C v xs va ys) : Ls C lo w va ys := ⟨c.1 w h.1, fun y hy => h.2 y (c.2.1 y hy)⟩
theorem CutOf.cut (c : CutOf C v xs va ys) {i j : Nat} (hij : i ≤ j) (hj : j ≤ ys.length) : CutOf C v xs (cutV va C.sz i j) ((ys.drop i).take (j - i)) := by
  refine ⟨fun W h => ?_, fun y hy => c.2.1 y (List.mem_of_mem_drop (List.mem_of_mem_take hy)), ?_⟩
  · have h1 : Ls ({C with ok := fun _ _ _ => True, okz := fun _ _ => trivial, fb := fun _ _ _ _ _ _ => trivial} : Cd α) 0 W va ys := ⟨c.1 W h, fun _ _ => trivial⟩
    exact (h1.cut hij hj).1
  · have := c.2.2
    rw [List.length_take, List.length_drop]; omega
end
theorem lel_lt0 {α : Type} {C : Cd α} {xs : List α} {j s : Nat} {y : α} (hs : C.sz = s) (k : Nat) (hk : k < s) (hy : xs[j]? = some y) : j * s + k < (C.cs xs).length := by subst hs; exact lel_lt hy hk
theorem lel_ltz {α : Type} {C : Cd α} {xs : List α} {j s : Nat} {y : α} (hs : C.sz = s) (hk : 0 < s) (hy : xs[j]? = some y) : j * s < (C.cs xs).length := by subst hs; exact lel_lt (k := 0) hy hk
theorem verK_sig {keys : List Nm} {x : Sg} (h : verK keys x.p = true) : x.sig.length ≤ 140737488355328 := by
  unfold verK at h
  have h1 := (Bool.and_eq_true_iff.1 h).2
  unfold verP at h1
  unfold ver at h1
  have h2 := of_decide_eq_true (Bool.and_eq_true_iff.1 (Bool.and_eq_true_iff.1 h1).2).1
  have h3 : x.sig.length = 370 := h2
  omega
theorem gext {w w' : World} (g : w.grownBy w' (Value.slice none 0 0).ownBlock) : Ext w w' := ⟨g.1, g.2, g.3, g.4, fun k hk => g.5 k hk (fun e => nomatch (show (none : Option Nat) = some k from e.symm))⟩
theorem Ls.up2 {lo lo' : Nat} {w : World} {v : Value} {xs : List Sg} (h : Ls cS lo w v xs) (hl : lo ≤ lo') : Ls cS lo' w v xs := ⟨h.1, fun x hx => (h.2 x hx).up hl⟩
def cut60 (v : Value) (n : Nat) : Value := if 60 < n then cutV v 23 0 60 else v
theorem cut60_ls {lo : Nat} {w : World} {v : Value} {ss : List Sg} (h : Ls cS lo w v ss) : Ls cS lo w (cut60 v ss.length) (ss.take 60) := by
  unfold cut60
  split
  · have := h.cut (i := 0) (j := 60) (Nat.zero_le _) (by omega)
    rw [List.drop_zero] at this; exact this
  · rw [List.take_of_length_le (by omega)]; exact h
theorem Ls.es {lo : Nat} {w : World} {v : Value} {es : List Ev} (h : Ls cE lo w v es) : Es w v es := ⟨h.1, fun e he => ⟨(h.2 e he).1.ok, (h.2 e he).2.ok⟩⟩
theorem bldS_len : ∀ {es : List Ev} {p : Int} {acc b : List UInt8}, bldS es p acc = some b → b.length = acc.length + 786 * es.length
  | [], _, _, _, h => by simp only [bldS, Option.some.injEq] at h; subst h; simp
  | e :: t, p, acc, b, h => by
    rw [bldS] at h
    split at h
    · rename_i hc
      rw [bldS_len h, List.length_append, encE_len (by simp only [Bool.and_eq_true] at hc; exact hc.1), List.length_cons]; omega
    · cases h
theorem build_len {es : List Ev} (h : (build es).2 = true) : 787 ≤ (build es).1.length ∧ (build es).1.length ≤ 7861 := by
  unfold build at h ⊢
  by_cases hc : es.length = 0 ∨ 10 < es.length
  · rw [if_pos hc] at h; cases h
  · rw [if_neg hc] at h ⊢
    cases hb : bldS es (-1) [by8 ((es.length : Nat) : Int)] with
    | none => rw [hb] at h; cases h
    | some b =>
      have := bldS_len hb
      simp only [List.length_cons, List.length_nil] at this
      exact ⟨by show 787 ≤ b.length; omega, by show b.length ≤ 7861; omega⟩
def sLt (a b : List UInt8) : Bool := Op.bytesLess (ByteArray.mk a.toArray).toList (ByteArray.mk b.toArray).toList
def sLe (a b : List UInt8) : Bool := sLt a b || (ByteArray.mk a.toArray).toList == (ByteArray.mk b.toArray).toList
section
variable {P : Program} {ρ : Operand → Value} {w : World} {dst : Option Tmp} {ty : TypeId} {pos : String} {aft : Array Edge} {gd : Option (Nat × Bool)}
theorem R_leqStr {x y : Operand} {a b : List UInt8} {t t' : TypeId} (hx : ρ x = strV a) (hy : ρ y = strV b) : (execOp ρ ⟨dst, .binOp .leq t x y t', ty, pos, aft, gd⟩).run Try.prog w = .ok (.value (.bool (sLe a b))) w := by
  simp only [execOp, hx, hy]
  rfl
theorem R_lssStr {x y : Operand} {a b : List UInt8} {t t' : TypeId} (hx : ρ x = strV a) (hy : ρ y = strV b) : (execOp ρ ⟨dst, .binOp .lss t x y t', ty, pos, aft, gd⟩).run Try.prog w = .ok (.value (.bool (sLt a b))) w := by
  simp only [execOp, hx, hy]
  rfl
end
section
variable {P : Program} {ops : Array Oper} {Q : Exit → Act → World → Prop} {K : Act → World → Prop} {n : Nat} {f : Nat → Value} {w : World} {d : Option Tmp} {ty : TypeId} {pos : String} {aft : Array Edge}
/-- Appending at the reach: the kit's wide law. -/
theorem D_appendW {lo : Nat} {t : TypeId} {s x : Operand} {v u : Value} {xs news : List UInt8} (hI : ElT P 5 1 1) (ht : P.underlying t = some (.slice 5)) (hs : ov n f s = v) (hx : ov n f x = u) (ho : OwnB w lo v xs) (hu : Bs w u news)
    (hb : xs.length + news.length ≤ 200000000000000) (hlo : lo ≤ w.heap.size)
    (h : ∀ v' w', OwnB w' lo v' (xs ++ news) → w.grownBy w' v.ownBlock → K (E n (upo f d v')) w') :
    wpO P ops Q ⟨d, .call ⟨.builtin .append, #[s, x], #[t, t]⟩, ty, pos, aft, none⟩ K (E n f) w := by
  by_cases hsm : xs.length + news.length ≤ 140737488355328
  · exact D_appendB hI ht hs hx ho hu hsm hlo h
  · obtain ⟨i, z, hi, hz, h1, h2, h3⟩ := hI
    have hu0 := hu
    obtain ⟨hl, A, c, rfl, hmc, hc63, hA, hcells⟩ := hu
    cases A with
    | none =>
      have hc0 := hA rfl
      have hm0 : news.length = 0 := by omega
      obtain rfl : news = [] := List.eq_nil_of_length_eq_zero hm0
      have hc1 : c = 0 := hc0
      subst hc1
      have hr := run_append_owned_none (P := P) (w := w) lo t ty 5 i 1 ht hi v xs.length (bl xs) ho
      refine D_v (v := v) (w' := w) ?_ (h v w (by simpa using ho) ⟨rfl, rfl, rfl, Nat.le_refl _, fun _ _ _ => rfl⟩)
      simp only [execOp, resolve, invoke, builtin, Sem.run_bind, Sem.run_pure, Result.andThen_ok, List.map_toArray, List.map_cons, List.map_nil, hs, hx]
      simp only [List.length_nil]
      rw [hr]; rfl
    | some a =>
      have hm : maxLen = 9223372036854775807 := rfl
      obtain ⟨v', w', hr, h4, h5, _⟩ := run_append_own_wide (P := P) w lo t ty 5 i z 1 1 ht hi hz h1 h2 h3 (by decide) v xs.length (bl xs) ho a news.length c (bl news) hl (fun j u hj => by obtain ⟨ad, hAd, hc⟩ := hcells j u hj; cases hAd; exact hc) (fun u hu => plain_one (List.all_eq_true.1 (bl_plain _) u hu)) (by omega) (by omega) hlo
      refine D_v (v := v') (w' := w') ?_ (h v' w' (OwnB.of h4 (by simp) (bl_app _ _).symm) h5)
      simp only [execOp, resolve, invoke, builtin, Sem.run_bind, Sem.run_pure, Result.andThen_ok, List.map_toArray, List.map_cons, List.map_nil, hs, hx, hr]
end
/-- A beginning of an own row is an own row. -/
theorem OwnB.take {w : World} {lo : Nat} {v : Value} {b : List UInt8} (h : OwnB w lo v b) {j : Nat} (hj : j ≤ b.length) : OwnB w lo (cutV v 1 0 j) (((b).drop 0).take (j - 0)) := by
  obtain ⟨hl, ⟨rfl, h0⟩ | ⟨g, cap, cur, rfl, hg, hb, h1, h2, h3, h4⟩⟩ := h
  · obtain rfl : b = [] := List.eq_nil_of_length_eq_zero h0
    obtain rfl : j = 0 := by simpa using hj
    exact OwnB.nil w lo
  · refine ⟨by simp [bl_len], .inr ⟨g, cap, cur, ?_, hg, hb, ?_, h2, h3, ?_⟩⟩
    · simp only [cutV, List.drop_zero, List.length_take, Nat.sub_zero, Nat.zero_mul]
      rw [Nat.min_eq_left hj]
      by_cases hc : cap = 0
      · rw [if_pos hc]
      · rw [if_neg hc]; rfl
    · simp only [List.drop_zero, List.length_take, Nat.sub_zero]; omega
    · simp only [List.drop_zero, Nat.sub_zero, List.length_take, Nat.mul_one, Nat.min_eq_left hj] at h4 ⊢
      have e : cur.toList.take j = (cur.toList.take b.length).take j := by rw [List.take_take, Nat.min_eq_left hj]
      rw [e, h4]; simp [bl, List.map_take]
end Go.Proofs.Yteeopgpgbdhmhaa
