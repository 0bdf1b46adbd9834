/- Lists filtered step by step; signed votes that are the same. No condition. -/
import Derived.Test.YteeopgpgbdhmhaaCi
namespace Go.Proofs.Yteeopgpgbdhmhaa
open Go.RowKit Go.Lib
set_option linter.unusedVariables false
def sameS (a b : Pv) : Bool := decide (a.1 = b.1) && decide (a.2 = b.2)
theorem flt_y {xs ys : List Sg} {i : Nat} {q : Sg → Bool} (h : ys = (xs.take i).filter q) (lk : i < xs.length) (hq : q (xs.getD i Sg.zero) = true) : ys ++ [xs.getD i Sg.zero] = (xs.take (i + 1)).filter q := by
  have e : xs.getD i Sg.zero = xs[i] := by simp [List.getD, lk]
  rw [List.take_add_one, List.filter_append, ← h, List.getElem?_eq_getElem lk, e]
  rw [e] at hq
  simp [hq]
theorem flt_n {xs ys : List Sg} {i : Nat} {q : Sg → Bool} (h : ys = (xs.take i).filter q) (lk : i < xs.length) (hq : q (xs.getD i Sg.zero) = false) : ys = (xs.take (i + 1)).filter q := by
  have e : xs.getD i Sg.zero = xs[i] := by simp [List.getD, lk]
  rw [List.take_add_one, List.filter_append, ← h, List.getElem?_eq_getElem lk]
  rw [e] at hq
  simp [hq]
end Go.Proofs.Yteeopgpgbdhmhaa
