/- How long a slice of bytes is that was read within the reach. No condition. -/
import Derived.Test.YteeopgpgbdhmhaaOs
import Derived.SizedLaws
namespace Go.Proofs.Yteeopgpgbdhmhaa
open Go.RowKit Go.ChangeShapes Go.WideShapes Go.ChangeAt
set_option linter.unusedVariables false
variable {H : Type} {enc : TypeId × Value → H} {w : World} {base : Nat} {sp : Nat → Bool} {held : Bool}
theorem bytes5 : Try.prog.bytesOf 5 = 1 := by kernel_rfl
theorem reach31 {v : Value} {d : DataW H} {p : List MemPlace} {b : List UInt8} {ts : List TypeId} {ds : List (DataW H)} (h : DataW.Trod enc Try.prog w base sp held 31 v d p) (hb : Bs w v b)
    (hs : (DataW.weightsEach Try.prog ts ds).all (· ≤ reachBytes) = true) {j : Nat} (ht : ts[j]? = some 31) (hd : ds[j]? = some d) : b.length ≤ reachBytes := by
  obtain ⟨fuel, hf⟩ := h
  obtain ⟨hl, A, c, rfl, h1, h2, h3, h4⟩ := hb
  rcases DataW.trod_slice Try.underlying31 hf with ⟨hcs, _⟩ | ⟨a, len, cap, elems, rest, n, _, hcs, hx, _, _, _, he, _⟩
  · simp [Value.cells] at hcs
    rw [hcs.2.1]; exact Nat.zero_le _
  · simp [Value.cells] at hcs
    obtain ⟨rfl, rfl, rfl⟩ := hcs
    cases hx
    have := sized_slice hs ht hd Try.underlying31
    rw [bytes5] at this
    simp only [List.length_map] at this
    omega
end Go.Proofs.Yteeopgpgbdhmhaa
