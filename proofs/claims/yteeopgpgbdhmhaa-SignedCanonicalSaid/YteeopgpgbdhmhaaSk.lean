/- Slices of an array from an offset. No condition. -/
import Derived.Test.YteeopgpgbdhmhaaSj
namespace Go.Proofs.Yteeopgpgbdhmhaa
open Go.RowKit
variable {P : Program} {ρ : Operand → Value} {w : World} {dst : Option Tmp} {ty : TypeId} {pos : String} {aft : Array Edge} {gd : Option (Nat × Bool)}
theorem R_sliceArrLo {t e : TypeId} {x lo : Operand} {g o len : Nat} {k : IntKind} {i : Nat} (ht : P.underlying t = some (.array (len + 1) e)) (hs : ∀ w, (sizeOf e).run P w = .ok 1 w) (hx : ρ x = .pointer (some ⟨g, o, none⟩)) (hlo : ρ lo = .int k (i : Int)) (hi : i < len + 1) :
    (execOp ρ ⟨dst, .slice t x (some lo) none none, ty, pos, aft, gd⟩).run P w = .ok (.value (.slice (some ⟨g, o + i, none⟩) (len + 1 - i) (len + 1 - i))) w := by
  have h3 : ¬ (len + 1 = i) := by omega
  have h6 : (i : Int) ≤ (len : Int) + 1 := by omega
  simp [go_sem, hx, hlo, Instr.sliceAt, Instr.sureAddr, Instr.sliceBounds, run_underlying ht, hs, Addr.add, h3, h6]
end Go.Proofs.Yteeopgpgbdhmhaa
