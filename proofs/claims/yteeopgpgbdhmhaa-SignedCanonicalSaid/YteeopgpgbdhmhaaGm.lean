/- Lists of signed votes that are the same. No condition. -/
import Derived.Test.YteeopgpgbdhmhaaGl
namespace Go.Proofs.Yteeopgpgbdhmhaa
open Go.RowKit Go.Lib
set_option linter.unusedVariables false
def listS (xs ys : List Sg) : Bool := decide (xs.map Sg.p = ys.map Sg.p)
theorem sameS_iff {a b : Pv} : sameS a b = true ↔ a = b := by
  unfold sameS
  simp only [Bool.and_eq_true, decide_eq_true_eq]
  exact ⟨fun h => Prod.ext h.1 h.2, fun h => by rw [h]; exact ⟨rfl, rfl⟩⟩
theorem listS_len {xs ys : List Sg} (h : xs.length ≠ ys.length) : listS xs ys = false := by
  unfold listS
  refine decide_eq_false fun e => h ?_
  have := congrArg List.length e
  simpa using this
theorem listS_at {xs ys : List Sg} {i : Nat} (hx : i < xs.length) (hy : i < ys.length) (h : sameS (xs.getD i Sg.zero).p (ys.getD i Sg.zero).p = false) : listS xs ys = false := by
  unfold listS
  refine decide_eq_false fun e => ?_
  have h1 := congrArg (fun l => l[i]?) e
  simp only [List.getElem?_map, getD_some (d := Sg.zero) hx, getD_some (d := Sg.zero) hy, Option.map_some, Option.some.injEq] at h1
  rw [h1] at h
  rw [sameS_refl] at h; cases h
theorem listS_next {xs ys : List Sg} {i : Nat} (ha : (xs.take i).map Sg.p = (ys.take i).map Sg.p) (hx : i < xs.length) (hy : i < ys.length) (h : sameS (xs.getD i Sg.zero).p (ys.getD i Sg.zero).p = true) : (xs.take (i + 1)).map Sg.p = (ys.take (i + 1)).map Sg.p := by
  have h1 := sameS_iff.1 h
  rw [List.take_add_one, List.take_add_one, List.map_append, List.map_append, ha, getD_some (d := Sg.zero) hx, getD_some (d := Sg.zero) hy]
  simp only [Option.toList_some, List.map_cons, List.map_nil, h1]
theorem listS_all {xs ys : List Sg} (hl : xs.length = ys.length) (ha : (xs.take xs.length).map Sg.p = (ys.take xs.length).map Sg.p) : listS xs ys = true := by
  unfold listS
  refine decide_eq_true ?_
  rw [List.take_of_length_le (Nat.le_refl _), List.take_of_length_le (by omega)] at ha
  exact ha
end Go.Proofs.Yteeopgpgbdhmhaa
