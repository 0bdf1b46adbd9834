/- What each operation gives: one lemma an operation. No condition. -/
import Derived.Test.YteeopgpgbdhmhaaEng
namespace Go.Proofs.Yteeopgpgbdhmhaa
open Go.RowKit
set_option linter.unusedSimpArgs false
section
variable {P : Program} {ρ : Operand → Value} {w : World} {dst : Option Tmp} {ty : TypeId} {pos : String} {aft : Array Edge} {gd : Option (Nat × Bool)}
theorem R_assign {x : Operand} {v : Value} (hx : ρ x = v) : (execOp ρ ⟨dst, .assign x, ty, pos, aft, gd⟩).run P w = .ok (.value v) w := by
  simp [go_sem, hx]
theorem R_move {x : Operand} {v : Value} (hx : ρ x = v) : (execOp ρ ⟨dst, .move x, ty, pos, aft, gd⟩).run P w = .ok (.value v) w := by
  simp [go_sem, hx]
theorem R_not {t : TypeId} {x : Operand} {b : Bool} (hx : ρ x = .bool b) : (execOp ρ ⟨dst, .unOp .not t x, ty, pos, aft, gd⟩).run P w = .ok (.value (.bool (!b))) w := by
  simp [go_sem, hx]
theorem R_pick {c x y : Operand} {b : Bool} {u v : Value} (hc : ρ c = .bool b) (hx : ρ x = u) (hy : ρ y = v) : (execOp ρ ⟨dst, .pick c x y, ty, pos, aft, gd⟩).run P w = .ok (.value (if b then u else v)) w := by
  simp [go_sem, hc, hx, hy]
theorem R_pickA {c x y : Operand} {b v : Bool} (hc : ρ c = .bool b) (hx : ρ x = cond (b == true) (.bool v) undef) (hy : ρ y = .bool false) : (execOp ρ ⟨dst, .pick c x y, ty, pos, aft, gd⟩).run P w = .ok (.value (.bool (b && v))) w := by
  cases b <;> simp [go_sem, hc, hx, hy]
theorem R_pickO {c x y : Operand} {b v : Bool} (hc : ρ c = .bool b) (hx : ρ x = .bool true) (hy : ρ y = cond (b == false) (.bool v) undef) : (execOp ρ ⟨dst, .pick c x y, ty, pos, aft, gd⟩).run P w = .ok (.value (.bool (b || v))) w := by
  cases b <;> simp [go_sem, hc, hx, hy]
theorem R_cast {o : Oper} {v v' : Value} {w' : World} (h : (execOp ρ o).run P w = .ok (.value v) w') (e : v = v') : (execOp ρ o).run P w = .ok (.value v') w' := e ▸ h
theorem R_box {e : TypeId} {x : Operand} {v : Value} (hx : ρ x = v) : (execOp ρ ⟨dst, .box e x, ty, pos, aft, gd⟩).run P w = .ok (.value (.pointer (some ⟨w.heap.size, 0, none⟩))) (w.alloc (.cells v.cells e)) := by
  simp [go_sem, hx]
theorem R_alloc {e : TypeId} {z : Value} (hz : ∀ w, (zeroValue e).run P w = .ok z w) : (execOp ρ ⟨dst, .alloc e, ty, pos, aft, gd⟩).run P w = .ok (.value (.pointer (some ⟨w.heap.size, 0, none⟩))) (w.alloc (.cells z.cells e)) := by
  simp [go_sem, hz]
section
variable {t t' : TypeId} {k : IntKind} {x y : Operand} {m n : Int} (hx : ρ x = .int k m) (hy : ρ y = .int k n)
include hx hy
theorem R_eqlI : (execOp ρ ⟨dst, .binOp .eql t x y t', ty, pos, aft, gd⟩).run P w = .ok (.value (.bool (m == n))) w := by
  simp [go_sem, hx, hy]
theorem R_neqI : (execOp ρ ⟨dst, .binOp .neq t x y t', ty, pos, aft, gd⟩).run P w = .ok (.value (.bool (m != n))) w := by
  simp [go_sem, hx, hy]
theorem R_lssI : (execOp ρ ⟨dst, .binOp .lss t x y t', ty, pos, aft, gd⟩).run P w = .ok (.value (.bool (decide (m < n)))) w := by
  simp [go_sem, hx, hy]
theorem R_leqI : (execOp ρ ⟨dst, .binOp .leq t x y t', ty, pos, aft, gd⟩).run P w = .ok (.value (.bool (decide (m ≤ n)))) w := by
  simp [go_sem, hx, hy]
theorem R_gtrI : (execOp ρ ⟨dst, .binOp .gtr t x y t', ty, pos, aft, gd⟩).run P w = .ok (.value (.bool (decide (n < m)))) w := by
  simp [go_sem, hx, hy]
theorem R_geqI : (execOp ρ ⟨dst, .binOp .geq t x y t', ty, pos, aft, gd⟩).run P w = .ok (.value (.bool (decide (n ≤ m)))) w := by
  simp [go_sem, hx, hy]
theorem R_addI : (execOp ρ ⟨dst, .binOp .add t x y t', ty, pos, aft, gd⟩).run P w = .ok (.value (.int k (k.wrap (m + n)))) w := by
  simp [go_sem, hx, hy]
theorem R_subI : (execOp ρ ⟨dst, .binOp .sub t x y t', ty, pos, aft, gd⟩).run P w = .ok (.value (.int k (k.wrap (m - n)))) w := by
  simp [go_sem, hx, hy]
theorem R_mulI : (execOp ρ ⟨dst, .binOp .mul t x y t', ty, pos, aft, gd⟩).run P w = .ok (.value (.int k (k.wrap (m * n)))) w := by
  simp [go_sem, hx, hy]
theorem R_andI : (execOp ρ ⟨dst, .binOp .and t x y t', ty, pos, aft, gd⟩).run P w = .ok (.value (.int k (bits .and k m n))) w := by
  simp [go_sem, hx, hy]
theorem R_orI : (execOp ρ ⟨dst, .binOp .or t x y t', ty, pos, aft, gd⟩).run P w = .ok (.value (.int k (bits .or k m n))) w := by
  simp [go_sem, hx, hy]
theorem R_xorI : (execOp ρ ⟨dst, .binOp .xor t x y t', ty, pos, aft, gd⟩).run P w = .ok (.value (.int k (bits .xor k m n))) w := by
  simp [go_sem, hx, hy]
theorem R_andNotI : (execOp ρ ⟨dst, .binOp .andNot t x y t', ty, pos, aft, gd⟩).run P w = .ok (.value (.int k (bits .andNot k m n))) w := by
  simp [go_sem, hx, hy]
end
theorem R_eqlB {t t' : TypeId} {x y : Operand} {m n : Bool} (ht : P.underlying t = some .bool) (hx : ρ x = .bool m) (hy : ρ y = .bool n) : (execOp ρ ⟨dst, .binOp .eql t x y t', ty, pos, aft, gd⟩).run P w = .ok (.value (.bool (m == n))) w := by
  simp [go_sem, hx, hy, ht]
theorem R_neqB {t t' : TypeId} {x y : Operand} {m n : Bool} (ht : P.underlying t = some .bool) (hx : ρ x = .bool m) (hy : ρ y = .bool n) : (execOp ρ ⟨dst, .binOp .neq t x y t', ty, pos, aft, gd⟩).run P w = .ok (.value (.bool (m != n))) w := by
  simp [go_sem, hx, hy, ht, bne]
theorem R_eqlA {t t' : TypeId} {x y : Operand} {xs ys : Array Value} {z : Bool} (ht : P.eqGuardType P.depth t = false) (h : (Op.equalIn 10000 t (.agg xs) (.agg ys)).run P w = .ok z w) (hx : ρ x = .agg xs) (hy : ρ y = .agg ys) : (execOp ρ ⟨dst, .binOp .eql t x y t', ty, pos, aft, gd⟩).run P w = .ok (.value (.bool z)) w := by
  simp [go_sem, hx, hy, ht, h]
theorem R_neqA {t t' : TypeId} {x y : Operand} {xs ys : Array Value} {z : Bool} (ht : P.eqGuardType P.depth t = false) (h : (Op.equalIn 10000 t (.agg xs) (.agg ys)).run P w = .ok z w) (hx : ρ x = .agg xs) (hy : ρ y = .agg ys) : (execOp ρ ⟨dst, .binOp .neq t x y t', ty, pos, aft, gd⟩).run P w = .ok (.value (.bool (!z))) w := by
  simp [go_sem, hx, hy, ht, h]
theorem R_fieldAddr {t : TypeId} {j : Nat} {x : Operand} {b o s : Nat} {fs : Array Field} {fd : Field} (ht : ∀ w, (underlying t).run P w = .ok (.struct fs) w) (hj : fs[j]? = some fd) (hs : ∀ w, (sizeOf fd.type).run P w = .ok (s + 1) w) (hx : ρ x = .pointer (some ⟨b, o, none⟩)) :
    (execOp ρ ⟨dst, .fieldAddr t x j, ty, pos, aft, gd⟩).run P w = .ok (.value (.pointer (some ⟨b, o + fd.offset, none⟩))) w := by
  simp [go_sem, hx, ht, hj, hs]
theorem R_load1 {t : TypeId} {x : Operand} {a : Addr} {v : Value} (ht : ∀ w, (isAgg t).run P w = .ok false w) (hx : ρ x = .pointer (some a)) (hc : w.cell? a = some v) : (execOp ρ ⟨dst, .load t x, ty, pos, aft, gd⟩).run P w = .ok (.value v) w := by
  simp [go_sem, hx, hc, ht]
theorem R_load {t : TypeId} {x : Operand} {g o : Nat} {l : List Value} {T : TypeId} {v : Value} (ht : ∀ w, (isAgg t).run P w = .ok false w) (hb : Blk w g l T) (hx : ρ x = .pointer (some ⟨g, o, none⟩)) (hv : l[o]? = some v) : (execOp ρ ⟨dst, .load t x, ty, pos, aft, gd⟩).run P w = .ok (.value v) w :=
  R_load1 ht hx ((hb.cell o).trans hv)
theorem add_none (g o j : Nat) : (⟨g, o, none⟩ : Addr).add j = ⟨g, o + j, none⟩ := by unfold Addr.add; split <;> simp_all
theorem R_loadA {t : TypeId} {x : Operand} {g o s : Nat} {l c : List Value} {T : TypeId} (ht : ∀ w, (isAgg t).run P w = .ok true w) (hs : ∀ w, (sizeOf t).run P w = .ok s w) (hb : Blk w g l T) (hx : ρ x = .pointer (some ⟨g, o, none⟩)) (hc : (l.drop o).take s = c) (hl : Nat.ble (o + s) l.length = true) :
    (execOp ρ ⟨dst, .load t x, ty, pos, aft, gd⟩).run P w = .ok (.value (.agg c.toArray)) w := by
  have hl' : o + s ≤ l.length := Nat.le_of_ble_eq_true hl
  have h := run_loadCellsFrom (P := P) w ⟨g, o, none⟩ (fun j => l[o + j]?.getD undef) s 0 #[] (fun j hj => by
    rw [add_none, hb.cell, Nat.zero_add]; simp only [List.getElem?_eq_getElem (show o + j < l.length by omega), Option.getD_some])
  have e : (List.range s).map (fun j => l[o + (0 + j)]?.getD undef) = c := by
    rw [← hc]
    apply List.ext_getElem
    · simp; omega
    · intro i h1 h2
      have hi : i < s := by simpa using h1
      have : o + i < l.length := by omega
      simp [this]
  rw [e] at h
  simp [go_sem, hx, ht, hs, h]
theorem R_build0 {t e : TypeId} {len s : Nat} {z : Array Value} (ht : ∀ w, (underlying t).run P w = .ok (.array len e) w) (hs : ∀ w, (sizeOf e).run P w = .ok s w) (hz : ∀ w, (zeroValue t).run P w = .ok (.agg z) w) : (execOp ρ ⟨dst, .build t #[], ty, pos, aft, gd⟩).run P w = .ok (.value (.agg z)) w := by
  simp [go_sem, hz, ht, hs]
theorem R_buildA {t e : TypeId} {len s : Nat} {z : Array Value} {parts : Array (Nat × Operand)} {vs : List (Nat × Value)} {c : List Value} (ht : ∀ w, (underlying t).run P w = .ok (.array len e) w) (hs : ∀ w, (sizeOf e).run P w = .ok s w) (hz : ∀ w, (zeroValue t).run P w = .ok (.agg z) w)
    (hv : parts.toList.map (fun p => (p.1, ρ p.2)) = vs) (hf : Instr.fill (fun i => some (i * s, s)) z vs = some c.toArray) : (execOp ρ ⟨dst, .build t parts, ty, pos, aft, gd⟩).run P w = .ok (.value (.agg c.toArray)) w := by
  simp [go_sem, hz, ht, hs, Instr.build, Value.cells, hv, hf]
theorem R_buildS {t : TypeId} {fs : Array Field} {pl : Array (Nat × Nat)} {z : Array Value} {parts : Array (Nat × Operand)} {vs : List (Nat × Value)} {c : List Value} (ht : ∀ w, (underlying t).run P w = .ok (.struct fs) w) (hp : ∀ w, (fs.mapM fun (f : Field) => Prod.mk f.offset <$> sizeOf f.type).run P w = .ok pl w) (hz : ∀ w, (zeroValue t).run P w = .ok (.agg z) w)
    (hv : parts.toList.map (fun p => (p.1, ρ p.2)) = vs) (hf : Instr.fill (pl[·]?) z vs = some c.toArray) : (execOp ρ ⟨dst, .build t parts, ty, pos, aft, gd⟩).run P w = .ok (.value (.agg c.toArray)) w := by
  simp [go_sem, hz, ht, hp, Instr.build, Value.cells, hv, hf]
theorem R_callF {F : FuncId} {xs : Array Operand} {ts : Array TypeId} {vs : List Value} (hF : ∀ args w, (callFunc F args).run P w = .ok (.enter F args) w) (hv : xs.toList.map ρ = vs) (hf : ρ (.func F) = .func (.func F) #[] #[]) :
    (execOp ρ ⟨dst, .call ⟨.value (.func F), xs, ts⟩, ty, pos, aft, gd⟩).run P w = .ok (.enter F vs.toArray) w := by
  have : xs.map ρ = vs.toArray := by rw [← hv]; exact Array.toList_inj.1 (by simp)
  simp [go_sem, hf, this, hF]
theorem mapv1 {x0 : Operand} {u0 : Value} (h0 : ρ x0 = u0) : (#[x0] : Array Operand).toList.map ρ = [u0] := by subst h0; rfl
theorem mapv2 {x0 x1 : Operand} {u0 u1 : Value} (h0 : ρ x0 = u0) (h1 : ρ x1 = u1) : (#[x0, x1] : Array Operand).toList.map ρ = [u0, u1] := by subst h0 h1; rfl
theorem mapv3 {x0 x1 x2 : Operand} {u0 u1 u2 : Value} (h0 : ρ x0 = u0) (h1 : ρ x1 = u1) (h2 : ρ x2 = u2) : (#[x0, x1, x2] : Array Operand).toList.map ρ = [u0, u1, u2] := by subst h0 h1 h2; rfl
theorem mapv4 {x0 x1 x2 x3 : Operand} {u0 u1 u2 u3 : Value} (h0 : ρ x0 = u0) (h1 : ρ x1 = u1) (h2 : ρ x2 = u2) (h3 : ρ x3 = u3) : (#[x0, x1, x2, x3] : Array Operand).toList.map ρ = [u0, u1, u2, u3] := by subst h0 h1 h2 h3; rfl
theorem mapv5 {x0 x1 x2 x3 x4 : Operand} {u0 u1 u2 u3 u4 : Value} (h0 : ρ x0 = u0) (h1 : ρ x1 = u1) (h2 : ρ x2 = u2) (h3 : ρ x3 = u3) (h4 : ρ x4 = u4) : (#[x0, x1, x2, x3, x4] : Array Operand).toList.map ρ = [u0, u1, u2, u3, u4] := by subst h0 h1 h2 h3 h4; rfl
theorem R_index {t : TypeId} {x y : Operand} {k : IntKind} {i : Int} {l : List Value} {v : Value} {len : Nat} {e : TypeId} (ht : ∀ w, (underlying t).run P w = .ok (.array len e) w) (hs : ∀ w, (sizeOf e).run P w = .ok 1 w) (ha : ∀ w, (isAgg e).run P w = .ok false w) (hx : ρ x = .agg l.toArray) (hy : ρ y = .int k i) (hv : l[i.toNat]? = some v) (h0 : 0 ≤ i) (hl : i < len) :
    (execOp ρ ⟨dst, .index t x y, ty, pos, aft, gd⟩).run P w = .ok (.value v) w := by
  simp [go_sem, hx, hy, ht, hs, ha, hv, hl, h0, Instr.index, asIntOf]
theorem R_conv {s d : TypeId} {x : Operand} {k k' : IntKind} {m : Int} (hs : ∀ w, (underlying s).run P w = .ok (.int k) w) (hd : ∀ w, (underlying d).run P w = .ok (.int k') w) (hx : ρ x = .int k m) :
    (execOp ρ ⟨dst, .convert s d x, ty, pos, aft, gd⟩).run P w = .ok (.value (.int k' (k'.wrap m))) w := by
  simp [go_sem, hx, hs, hd, convert, Conv.intToInt]
theorem R_shl {t t' : TypeId} {x y : Operand} {k k' : IntKind} {m n : Int} (hx : ρ x = .int k m) (hy : ρ y = .int k' n) (hn : 0 ≤ n) : (execOp ρ ⟨dst, .binOp .shl t x y t', ty, pos, aft, gd⟩).run P w = .ok (.value (.int k (k.wrap (m * 2 ^ min n.toNat k.bits)))) w := by
  simp [go_sem, hx, hy, shift_shl_any _ _ _ _ hn]
theorem R_shr {t t' : TypeId} {x y : Operand} {k k' : IntKind} {m n : Int} (hx : ρ x = .int k m) (hy : ρ y = .int k' n) (hn : 0 ≤ n) : (execOp ρ ⟨dst, .binOp .shr t x y t', ty, pos, aft, gd⟩).run P w = .ok (.value (.int k (m / 2 ^ min n.toNat k.bits))) w := by
  simp [go_sem, hx, hy, shift_shr_any _ _ _ _ hn]
theorem R_indexAddrA {t : TypeId} {x y : Operand} {g o : Nat} {k : IntKind} {i : Int} {len s : Nat} {e : TypeId} (ht : ∀ w, (underlying t).run P w = .ok (.array len e) w) (hs : ∀ w, (sizeOf e).run P w = .ok s w) (hx : ρ x = .pointer (some ⟨g, o, none⟩)) (hy : ρ y = .int k i) (h0 : 0 ≤ i) (hl : i < len) :
    (execOp ρ ⟨dst, .indexAddr t x y, ty, pos, aft, gd⟩).run P w = .ok (.value (.pointer (some ⟨g, o + i.toNat * s, none⟩))) w := by
  simp [go_sem, hx, hy, ht, hs, h0, hl, Instr.indexAt, asIntOf, Instr.sureAddr, add_none]
end
end Go.Proofs.Yteeopgpgbdhmhaa
