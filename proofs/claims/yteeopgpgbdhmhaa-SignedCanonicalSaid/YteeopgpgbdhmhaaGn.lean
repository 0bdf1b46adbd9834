/- What SignedCanonical asks of canonical lists. No condition. -/
import Derived.Test.YteeopgpgbdhmhaaGm
import Derived.Test.YteeopgpgbdhmhaaRz
namespace Go.Proofs.Yteeopgpgbdhmhaa
open Go.RowKit Go.Lib
set_option linter.unusedVariables false
theorem ba_list (a : List UInt8) : (ByteArray.mk a.toArray).toList = a := by simp
theorem bl_ltB : ∀ a b : List UInt8, Op.bytesLess a b = ltB a b
  | [], [] => rfl
  | _ :: _, [] => rfl
  | [], _ :: _ => rfl
  | a :: x, b :: y => by
    rw [Bool.eq_iff_iff, ltB_cons]
    unfold Op.bytesLess
    rw [bl_ltB x y]
    simp
theorem sLt_ltB (a b : List UInt8) : sLt a b = ltB a b := by unfold sLt; rw [ba_list, ba_list, bl_ltB]
theorem sLe_ltB (a b : List UInt8) : sLe a b = !ltB b a := by
  unfold sLe
  rw [sLt_ltB, ba_list, ba_list]
  by_cases h : a = b
  · subst h; simp [ltB_irr]
  · rcases ltB_tot a b h with h1 | h1
    · rw [h1, sto_B.asym h1]; simp
    · rw [h1, sto_B.asym h1]; simp [h]
def cut200 (v : Value) (n : Nat) : Value := if 200 < n then cutV v 23 0 200 else v
theorem cut200_p {v : Value} {n : Nat} (h : 200 < n) : cutV v 23 0 200 = cut200 v n := by unfold cut200; rw [if_pos h]
theorem cut200_n {v : Value} {n : Nat} (h : ¬ 200 < n) : v = cut200 v n := by unfold cut200; rw [if_neg h]
theorem cut200_ls {lo : Nat} {w : World} {v : Value} {ss : List Sg} (h : Ls cS lo w v ss) : Ls cS lo w (cut200 v ss.length) (ss.take 200) := by
  unfold cut200
  split
  · have := h.cut (i := 0) (j := 200) (Nat.zero_le _) (by omega)
    rw [List.drop_zero] at this; exact this
  · rw [List.take_of_length_le (by omega)]; exact h
theorem cut200_X {w : World} {v : Value} {xs : List Sg} (hz : SsInz w v xs) : ∃ X, Ls cS w.heap.size w (cut200 v xs.length) X ∧ X.length ≤ 200 ∧ ∀ x ∈ X, x.sig.length ≤ 140737488355328 :=
  ⟨xs.take 200, cut200_ls hz.1.1, by rw [List.length_take]; omega, fun x hx => hz.2 x (List.mem_of_mem_take hx)⟩
theorem ret_b {P : Program} {F : FuncId} {args : Array Value} {w : World} {b c : Bool} (h : Calls P F args w (Ret w (.bool b))) (e : b = c) : Calls P F args w (Ret w (.bool c)) := e ▸ h
theorem sig_sub {xs ys : List Sg} (h : ∀ x ∈ xs, x.sig.length ≤ 140737488355328) (hs : ∀ p, p ∈ ys.map Sg.p → p ∈ xs.map Sg.p) : ∀ y ∈ ys, y.sig.length ≤ 140737488355328 := by
  intro y hy
  obtain ⟨x, hx, e⟩ := List.mem_map.1 (hs _ (List.mem_map.2 ⟨y, hy, rfl⟩))
  have e2 : x.sig = y.sig := congrArg Prod.snd e
  rw [← e2]; exact h x hx
theorem sig_take {xs : List Sg} {n : Nat} (h : ∀ x ∈ xs, x.sig.length ≤ 140737488355328) : ∀ x ∈ xs.take n, x.sig.length ≤ 140737488355328 := fun x hx => h x (List.mem_of_mem_take hx)
theorem sig_mem {xs ys : List Sg} (h : ∀ x ∈ xs, x.sig.length ≤ 140737488355328) (hs : ∀ y ∈ ys, y ∈ xs) : ∀ y ∈ ys, y.sig.length ≤ 140737488355328 := fun y hy => h y (hs y hy)
theorem turn_mem {X : List Sg} {k : Nat} {y : Sg} : y ∈ ((X.drop 0).reverse ++ X.drop k) ++ X.take k ↔ y ∈ X := by
  simp only [List.mem_append, List.mem_reverse, List.drop_zero]
  constructor
  · rintro ((h | h) | h)
    · exact h
    · exact List.mem_of_mem_drop h
    · exact List.mem_of_mem_take h
  · exact fun h => .inl (.inl h)
theorem turn_mem1 {X ts : List Sg} (ht : ts = (X.drop 0).reverse) {y : Sg} : y ∈ ts ↔ y ∈ X := by
  rw [ht, List.drop_zero, List.mem_reverse]
theorem turn_mem2 {X ts : List Sg} (ht : ts = (X.drop 0).reverse) {k : Nat} {y : Sg} : y ∈ (ts ++ ((X.drop k).take (X.length - k))) ++ ((X.drop 0).take (k - 0)) ↔ y ∈ X := by
  rw [ht, List.take_of_length_le (show (X.drop k).length ≤ X.length - k by rw [List.length_drop]; exact Nat.le_refl _), Nat.sub_zero]
  have := turn_mem (X := X) (k := k) (y := y)
  simp only [List.drop_zero] at this ⊢; exact this
theorem turn_next {X ts : List Sg} {j : Nat} (h : ts = (X.drop (j + 1)).reverse) (hj : j < X.length) : ts ++ [X.getD j Sg.zero] = (X.drop j).reverse := by
  rw [List.drop_eq_getElem_cons hj, List.reverse_cons, ← h]
  congr 1
  simp [List.getD, hj]
theorem can_same2 {X T y z : List Sg} (h : ∀ s, s ∈ T ↔ s ∈ X) (hX : IsCan (X.map Sg.p) (y.map Sg.p)) (hT : IsCan (T.map Sg.p) (z.map Sg.p)) : listS z y = true := by
  unfold listS
  refine decide_eq_true (hT.uniq (fun p => ?_) hX)
  rw [List.mem_map, List.mem_map]
  exact ⟨fun ⟨s, hs, e⟩ => ⟨s, (h s).1 hs, e⟩, fun ⟨s, hs, e⟩ => ⟨s, (h s).2 hs, e⟩⟩
theorem can_again {X y z : List Sg} (hX : IsCan (X.map Sg.p) (y.map Sg.p)) (hy : IsCan (y.map Sg.p) (z.map Sg.p)) : listS z y = true := by
  unfold listS
  exact decide_eq_true (hy.uniq (fun _ => Iff.rfl) (IsCan.self hX.up))
theorem can_up {X : List Pv} {y : List Sg} (h : IsCan X (y.map Sg.p)) {i : Nat} (h0 : 0 < i) (hi : i < y.length) : lessV (y.getD (i - 1) Sg.zero).vote (y.getD i Sg.zero).vote = true := by
  have hu := h.up
  unfold asc at hu
  rw [List.pairwise_map] at hu
  have h1 := List.pairwise_iff_getElem.1 hu (i - 1) i (by omega) hi (by omega)
  have e1 : y.getD (i - 1) Sg.zero = y[i - 1] := by simp [List.getD, show i - 1 < y.length by omega]
  have e2 : y.getD i Sg.zero = y[i] := by simp [List.getD, hi]
  rw [e1, e2]; exact h1
theorem can_has {X y : List Sg} (h : IsCan (X.map Sg.p) (y.map Sg.p)) {i : Nat} (hi : i < X.length) : ∃ q, q < y.length ∧ (y.getD q Sg.zero).vote = (X.getD i Sg.zero).vote ∧ sLe (y.getD q Sg.zero).sig (X.getD i Sg.zero).sig = true := by
  have e : X.getD i Sg.zero = X[i] := by simp [List.getD, hi]
  obtain ⟨p, hp, h1, h2⟩ := h.all X[i].p (List.mem_map.2 ⟨_, List.getElem_mem hi, rfl⟩)
  obtain ⟨s, hs, rfl⟩ := List.mem_map.1 hp
  obtain ⟨q, hq⟩ := List.getElem?_of_mem hs
  refine ⟨q, (List.getElem?_eq_some_iff.1 hq).1, ?_⟩
  have e3 : y.getD q Sg.zero = s := by rw [List.getD_eq_getElem?_getD, hq]; rfl
  rw [e3, e, sLe_ltB]
  refine ⟨h1, ?_⟩
  have h3 : ltB X[i].sig s.sig = false := h2
  rw [h3]; rfl
end Go.Proofs.Yteeopgpgbdhmhaa
