/- For signed.Canonical: function values made, copies filled in, equal votes dropped. No condition. -/
import Derived.Test.YteeopgpgbdhmhaaSz
import Derived.Test.YteeopgpgbdhmhaaCh
namespace Go.Proofs.Yteeopgpgbdhmhaa
open Go.RowKit Go.Lib
set_option linter.unusedVariables false
set_option linter.unusedSimpArgs false
section
variable {P : Program} {ρ : Operand → Value} {w : World} {dst : Option Tmp} {ty : TypeId} {pos : String} {aft : Array Edge} {gd : Option (Nat × Bool)}
theorem R_mkI {x : Operand} {v : Value} {t e : TypeId} (ht : P.underlying t = some (.slice e)) (hx : ρ x = v) : (execOp ρ ⟨dst, .makeInterface t x, ty, pos, aft, gd⟩).run P w = .ok (.value (.iface t v)) w := by
  simp [execOp, hx, Instr.makeInterface, run_underlying ht]
theorem R_mkF1 {x : Operand} {v : Value} {F : Fn} (hx : ρ x = v) : (execOp ρ ⟨dst, .makeFunc F #[] #[x], ty, pos, aft, gd⟩).run P w = .ok (.value (.func F #[] #[v])) w := by
  simp [execOp, hx, Instr.makeFunc]
end
theorem rs_pl {w : World} {v : Value} {m sz : Nat} {cs : List Value} (h : Rs w v m sz cs) : plainV v = true := by
  obtain ⟨_, A, c, rfl, _⟩ := h; rfl
theorem fillp {xs ys : List Sg} {i : Nat} {y : Sg} (h : (ys.take i).map Sg.p = (xs.take i).map Sg.p) (hl : ys.length = xs.length) (lk : i < xs.length) (hy : y.p = (xs.getD i Sg.zero).p) : ((ys.set i y).take (i + 1)).map Sg.p = (xs.take (i + 1)).map Sg.p := by
  have hi : i < ys.length := by omega
  have e1 : (ys.set i y).take (i + 1) = ys.take i ++ [y] := by
    apply List.ext_getElem?
    intro k
    rw [List.getElem?_take, List.getElem?_set]
    rcases Nat.lt_trichotomy k i with hk | hk | hk
    · rw [if_pos (by omega), if_neg (by omega), List.getElem?_append_left (by rw [List.length_take]; omega), List.getElem?_take, if_pos hk]
    · subst hk; rw [if_pos (by omega), if_pos rfl, if_pos hi, List.getElem?_append_right (by rw [List.length_take]; omega), List.length_take, Nat.min_eq_left (by omega), Nat.sub_self]; rfl
    · rw [if_neg (by omega), List.getElem?_eq_none (by rw [List.length_append, List.length_take, List.length_singleton]; omega)]
  rw [e1, List.map_append, h, List.take_add_one, List.map_append, List.getElem?_eq_getElem lk]
  have e2 : xs.getD i Sg.zero = xs[i] := by simp [List.getD, lk]
  rw [e2] at hy
  simp [hy]
/-- what is kept of a sorted list: the first of each vote -/
def ddn (zs : List Sg) : Nat → List Sg
  | 0 => []
  | k + 1 => if k = 0 ∨ (zs.getD k Sg.zero).vote ≠ (zs.getD (k - 1) Sg.zero).vote then ddn zs k ++ [zs.getD k Sg.zero] else ddn zs k
theorem ddn_len (zs : List Sg) : ∀ k, (ddn zs k).length ≤ k
  | 0 => Nat.le_refl _
  | k + 1 => by
    have := ddn_len zs k
    rw [ddn]; split
    · rw [List.length_append, List.length_singleton]; omega
    · omega
theorem ddn_y {zs ys : List Sg} {k : Nat} (h : ys = ddn zs k) (hc : k = 0 ∨ (zs.getD k Sg.zero).vote ≠ (zs.getD (k - 1) Sg.zero).vote) : ys ++ [zs.getD k Sg.zero] = ddn zs (k + 1) := by rw [ddn, if_pos hc, h]
theorem ddn_n {zs ys : List Sg} {k : Nat} (h : ys = ddn zs k) (hc : ¬ (k = 0 ∨ (zs.getD k Sg.zero).vote ≠ (zs.getD (k - 1) Sg.zero).vote)) : ys = ddn zs (k + 1) := by rw [ddn, if_neg hc, h]
end Go.Proofs.Yteeopgpgbdhmhaa
