/- What sort.SliceStable asks of the reflection's entries. No condition. -/
import Derived.Test.YteeopgpgbdhmhaaSw
import Derived.Test.YteeopgpgbdhmhaaWR
namespace Go.Proofs.Yteeopgpgbdhmhaa
open Go.RowKit Go.Lib
set_option linter.unusedVariables false
set_option linter.unusedSimpArgs false
def isSw (v sf : Value) : Prop := ∀ w, (Extern.ReflectliteSwapper.swapper "internal/reflectlite" (Extern.ReflectliteValue.valueError "Swapper") #[.iface 46 v]).run Try.prog w = .ok sf w
theorem find154 : Try.prog.funcs.findIdx? (·.name == "internal/reflectlite" ++ ".Swapper$" ++ toString 9) = some 154 := by kernel_rfl
theorem find146 : Try.prog.funcs.findIdx? (·.name == "internal/reflectlite" ++ ".Swapper$" ++ toString 1) = some 146 := by kernel_rfl
theorem find147 : Try.prog.funcs.findIdx? (·.name == "internal/reflectlite" ++ ".Swapper$" ++ toString 2) = some 147 := by kernel_rfl
theorem isSw_many (p : Option Addr) {n : Nat} (c : Nat) (h : 2 ≤ n) : isSw (.slice p n c) (.func (.func 154) #[] #[.slice p n c, typeHandle Try.prog 53]) := by
  obtain ⟨ie, hie, h1, h2, h3⟩ := tinfo53
  obtain ⟨i, hi, hd⟩ := tinfo46
  have hk : swapperK n ie 25 = 9 := by
    unfold swapperK
    have e0 : (n == 0) = false := by simp; omega
    have e1 : (n == 1) = false := by simp; omega
    simp [e0, e1, h2, h3]
  intro w
  have := run_swapper_slice (P := Try.prog) 46 53 i ie hi hd hie 25 kind53 p n c 154 (by rw [hk]; exact find154) w
  rw [hk] at this
  simpa using this
theorem isSw_zero (p : Option Addr) (c : Nat) : isSw (.slice p 0 c) (.func (.func 146) #[] #[]) := by
  obtain ⟨ie, hie, _⟩ := tinfo53
  obtain ⟨i, hi, hd⟩ := tinfo46
  intro w
  have := run_swapper_slice (P := Try.prog) 46 53 i ie hi hd hie 25 kind53 p 0 c 146 find146 w
  simpa [swapperK] using this
theorem isSw_one (p : Option Addr) (c : Nat) : isSw (.slice p 1 c) (.func (.func 147) #[] #[]) := by
  obtain ⟨ie, hie, _⟩ := tinfo53
  obtain ⟨i, hi, hd⟩ := tinfo46
  intro w
  have := run_swapper_slice (P := Try.prog) 46 53 i ie hi hd hie 25 kind53 p 1 c 147 find147 w
  simpa [swapperK] using this
theorem ext147 (args : Array Value) (w : World) : (callFunc 147 args).run Try.prog w = (((fun | #[.int .i64 0, .int .i64 0] => pure (.tuple #[]) | _ => Extern.ReflectliteSwapper.outOfRange : Array Value → Sem Value) args).run Try.prog w).andThen fun v w' => .ok (.value v) w' :=
  run_callFunc_extern Try.func147 (by kernel_rfl) (by kernel_rfl) (by kernel_rfl) (e := fun | #[.int .i64 0, .int .i64 0] => pure (.tuple #[]) | _ => Extern.ReflectliteSwapper.outOfRange) (by kernel_rfl) args w
theorem places145 (w : World) : ((#[⟨ "Less", 103, 0, false, "", "", 0⟩, ⟨ "Swap", 141, 1, false, "", "", 8⟩] : Array Field).mapM fun (f : Field) => Prod.mk f.offset <$> sizeOf f.type).run Try.prog w = .ok #[(0, 1), (1, 1)] w := by
  simp [Try.sizeOf103, Try.sizeOf141, go_sem]
theorem plain_cells {v : Value} (h : plainV v = true) : v.cells = [v].toArray := by cases v <;> simp_all [plainV, Value.cells]
theorem fill145 {a b z0 z1 : Value} (ha : plainV a = true) (hb : plainV b = true) : Instr.fill ((#[(0, 1), (1, 1)] : Array (Nat × Nat))[·]?) #[z0, z1] [(0, a), (1, b)] = some [a, b].toArray := by
  have := fill_step (place := ((#[(0, 1), (1, 1)] : Array (Nat × Nat))[·]?)) (cells := [z0, z1]) (i := 0) (off := 0) (size := 1) (rest := [(1, b)]) rfl (plain_cells ha) rfl (by simp)
  refine this.trans ?_
  have := fill_step (place := ((#[(0, 1), (1, 1)] : Array (Nat × Nat))[·]?)) (cells := [a, z1]) (i := 1) (off := 1) (size := 1) (rest := []) rfl (plain_cells hb) rfl (by simp)
  exact this
section
variable {ops : Array Oper} {Q : Exit → Act → World → Prop} {K : Act → World → Prop} {n : Nat} {f : Nat → Value} {w : World} {d : Option Tmp} {ty : TypeId} {pos : String} {aft : Array Edge}
theorem D_valueOf {xs : Array Operand} {ts : Array TypeId} {p : Option Addr} {m c : Nat} (hv : xs.toList.map (ov n f) = [.iface 46 (.slice p m c)])
    (k : ∀ g w', Ext w w' → w.heap.size ≤ g → Blk w' g [.slice p m c] 46 → K (E n (upo f d (.agg #[typeHandle Try.prog 46, .pointer (some ⟨g, 0, none⟩), .int .u64 151]))) w') :
    wpO Try.prog ops Q ⟨d, .call ⟨.value (.func 124), xs, ts⟩, ty, pos, aft, none⟩ K (E n f) w := by
  obtain ⟨i, hi, hd⟩ := tinfo46
  exact D_v (R_callX ext124 hv rfl (run_valueOf_slice (P := Try.prog) 46 53 i hi hd p m c w)) (k _ _ (Ext.alloc _ _) (Nat.le_refl _) (Blk.new _ _ _))
theorem D_valueLen {xs : Array Operand} {ts : Array TypeId} {p : Option Addr} {m c g : Nat} (hv : xs.toList.map (ov n f) = [.agg #[typeHandle Try.prog 46, .pointer (some ⟨g, 0, none⟩), .int .u64 151]]) (hb : Blk w g [.slice p m c] 46)
    (k : K (E n (upo f d (i64 ((m : Nat) : Int)))) w) : wpO Try.prog ops Q ⟨d, .call ⟨.value (.func 127), xs, ts⟩, ty, pos, aft, none⟩ K (E n f) w := by
  obtain ⟨i, hi, hd⟩ := tinfo46
  exact D_v (R_callX ext127 hv rfl (run_valueLen_slice (P := Try.prog) 46 53 i hi hd (by kernel_rfl) ⟨g, 0, none⟩ p m c w ((hb.cell 0).trans rfl))) k
end
end Go.Proofs.Yteeopgpgbdhmhaa
