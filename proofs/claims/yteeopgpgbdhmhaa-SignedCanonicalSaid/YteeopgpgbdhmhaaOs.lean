/- How a slice of bytes that came in reads. No condition. -/
import Derived.Test.YteeopgpgbdhmhaaOp
import Derived.Test.YteeopgpgbdhmhaaMem
namespace Go.Proofs.Yteeopgpgbdhmhaa
open Go.ChangeShapes Go.WideShapes Go.ChangeAt Go.RowKit
set_option maxRecDepth 20000
set_option linter.constructorNameAsVariable false
variable {H : Type} {enc : TypeId × Value → H} {w : World} {base : Nat} {sp : Nat → Bool} {held : Bool}
theorem open31 {v : Value} {d : DataW H} {p : List MemPlace} {b0 : Nat} {r : Reach} (hv : Value.okWide Try.prog w r b0 31 v) (h : DataW.Trod enc Try.prog w base sp held 31 v d p) : ∃ b : List UInt8, Bs w v b := by
  obtain ⟨a, len, cap, rfl⟩ := okWide_slice Try.underlying31 hv
  obtain ⟨fuel, hf⟩ := h
  rcases open_ints Try.underlying31 Try.underlying5 (by kernel_rfl) hf with ⟨hcs, _⟩ | ⟨x, l, c, zs, hcs, _, hl, hm, hz, _, hcell, hwz⟩
  · simp [Value.cells] at hcs
    obtain ⟨rfl, rfl, rfl⟩ := hcs
    exact ⟨[], rfl, none, 0, rfl, Nat.le_refl _, by omega, fun _ => rfl, by intro j u hu; simp [bl] at hu⟩
  · simp [Value.cells] at hcs
    obtain ⟨rfl, rfl, rfl⟩ := hcs
    have hz' : len ≤ zs.length := by
      have : zs.length = if sp x.block = true then cap else len := by simpa using hz
      rw [this]; split <;> omega
    refine ⟨(zs.take len).map fun n => UInt8.ofNat n.toNat, by simp [bl_len], some x, cap, ?_, ?_, ?_, ?_, ?_⟩
    · simp only [List.length_map, List.length_take]; rw [Nat.min_eq_left (by omega)]
    · simp only [List.length_map, List.length_take]; omega
    · have : maxLen = 9223372036854775807 := rfl
      omega
    · intro e; cases e
    · intro j u hu
      refine ⟨x, rfl, ?_⟩
      simp only [bl, List.getElem?_map, Option.map_eq_some_iff, List.getElem?_take] at hu
      obtain ⟨_, ⟨n, hn, rfl⟩, rfl⟩ := hu
      split at hn
      · have hj : j < zs.length := (List.getElem?_eq_some_iff.1 hn).1
        rw [hcell j hj]
        obtain ⟨b, hb⟩ := wf_u8 (hwz n (List.mem_of_getElem? hn))
        have e : zs.getD j 0 = n := by simp [List.getD, hn]
        rw [e]
        have hbn : n = (b.toNat : Int) := by simpa [u8] using hb
        rw [hbn]
        simp [u8]
      · cases hn
end Go.Proofs.Yteeopgpgbdhmhaa
