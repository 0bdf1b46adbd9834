/- Names and votes as plain data, and how the program's values of these types compare. No condition. -/
import Derived.Test.YteeopgpgbdhmhaaMem
import Derived.Test.YteeopgpgbdhmhaaProg
namespace Go.Proofs.Yteeopgpgbdhmhaa
open Go.RowKit
set_option linter.unusedSimpArgs false
theorem run_part1 {P : Program} {e : TypeId} (hs : ∀ w, (sizeOf e).run P w = .ok 1 w) (ha : ∀ w, (isAgg e).run P w = .ok false w) (l : List Value) (i : Nat) (v : Value) (hv : l[i]? = some v) (w : World) : (part e l.toArray i).run P w = .ok v w := by
  simp [go_sem, hs, ha, hv]
theorem eqArr {P : Program} {d : Nat} {t e : TypeId} {k : IntKind} {len : Nat} (ht : P.underlying t = some (.array len e)) (hs : ∀ w, (sizeOf e).run P w = .ok 1 w) (ha : ∀ w, (isAgg e).run P w = .ok false w) (he : P.underlying e = some (.int k))
   (xs ys : List Int) (hx : xs.length = len) (hy : ys.length = len) (w : World) : (Op.equalIn (d + 2) t (.agg (xs.map (Value.int k)).toArray) (.agg (ys.map (Value.int k)).toArray)).run P w = .ok (decide (xs = ys)) w := by
  rw [Op.equalIn]
  simp only [Sem.run_bind, run_underlying ht, Result.andThen_ok, hs, Nat.mul_one, Std.Legacy.Range.forIn_eq_forIn_range', Std.Legacy.Range.size]
  have key : ∀ m i, i + m = len → ∀ F : Nat → Option Bool × PUnit → Sem (ForInStep (Option Bool × PUnit)),
      (∀ j s, j < len → (F j s).run P w = .ok (if xs[j]? = ys[j]? then .yield (none, ()) else .done (some false, ())) w) →
      (forIn (List.range' i m) ((none, ()) : Option Bool × PUnit) F).run P w = .ok (if xs.drop i = ys.drop i then (none, ()) else (some false, ())) w := by
    intro m
    induction m with
    | zero =>
      intro i hi F hF
      rw [List.drop_of_length_le (by omega), List.drop_of_length_le (by omega)]
      simp
    | succ m ih =>
      intro i hi F hF
      have hx' : i < xs.length := by omega
      have hy' : i < ys.length := by omega
      simp only [List.range'_succ, List.forIn_cons, Sem.run_bind, hF i _ (by omega), Result.andThen_ok]
      rw [List.drop_eq_getElem_cons hx', List.drop_eq_getElem_cons hy', List.getElem?_eq_getElem hx', List.getElem?_eq_getElem hy']
      by_cases h : xs[i] = ys[i]
      · simp only [h, if_true, ih (i + 1) (by omega) F hF, List.cons.injEq, true_and]
      · rw [if_neg (by simpa using h), if_neg (by intro e; injection e with e _; exact h e)]
        simp
  rw [show (len - 0 + 1 - 1) / 1 = len by omega, key len 0 (by omega) _ ?_]
  · simp only [List.drop_zero]
    by_cases h : xs = ys <;> simp [h]
  · intro j s hj
    have hx' : j < xs.length := by omega
    have hy' : j < ys.length := by omega
    simp only [Sem.run_bind, run_part1 hs ha (xs.map (Value.int k)) j (.int k xs[j]) (by simp [hx']) w, run_part1 hs ha (ys.map (Value.int k)) j (.int k ys[j]) (by simp [hy']) w, Result.andThen_ok, run_equalIn_int w d e k k _ _ he]
    rw [List.getElem?_eq_getElem hx', List.getElem?_eq_getElem hy']
    by_cases h : xs[j] = ys[j] <;> simp [h]
structure Nm where
  (b0 b1 b2 b3 b4 b5 b6 b7 : UInt8)
  deriving DecidableEq
def Nm.l (n : Nm) : List Value := [u8 n.b0, u8 n.b1, u8 n.b2, u8 n.b3, u8 n.b4, u8 n.b5, u8 n.b6, u8 n.b7]
def Nm.v (n : Nm) : Value := .agg n.l.toArray
def Nm.zero : Nm := ⟨0, 0, 0, 0, 0, 0, 0, 0⟩
structure Vt where
  (kind slot round choice signer support : Int)
  (parent value : Nm)
  deriving DecidableEq
def i64 (n : Int) : Value := .int .i64 n
def Vt.l (v : Vt) : List Value := [i64 v.kind, i64 v.slot, i64 v.round, i64 v.choice, i64 v.signer, i64 v.support,
  u8 v.parent.b0, u8 v.parent.b1, u8 v.parent.b2, u8 v.parent.b3, u8 v.parent.b4, u8 v.parent.b5, u8 v.parent.b6, u8 v.parent.b7,
  u8 v.value.b0, u8 v.value.b1, u8 v.value.b2, u8 v.value.b3, u8 v.value.b4, u8 v.value.b5, u8 v.value.b6, u8 v.value.b7]
def Vt.zero : Vt := ⟨0, 0, 0, 0, 0, 0, Nm.zero, Nm.zero⟩
def Vt.v (v : Vt) : Value := .agg v.l.toArray
def u8i (l : List UInt8) : List Int := l.map fun b => (b.toNat : Int)
theorem u8i_inj {a b : List UInt8} : u8i a = u8i b ↔ a = b := by
  constructor
  · intro h
    induction a generalizing b with
    | nil => cases b with
      | nil => rfl
      | cons y b => simp [u8i] at h
    | cons x a ih => cases b with
      | nil => simp [u8i] at h
      | cons y b =>
        simp only [u8i, List.map_cons, List.cons.injEq] at h
        rw [ih (b := b) h.2, UInt8.toNat_inj.1 (by omega : x.toNat = y.toNat)]
  · rintro rfl; rfl
def Nm.b (n : Nm) : List UInt8 := [n.b0, n.b1, n.b2, n.b3, n.b4, n.b5, n.b6, n.b7]
theorem Nm.b_inj {m n : Nm} : m.b = n.b ↔ m = n := by
  cases m; cases n; simp [Nm.b]
theorem eqA24 (d : Nat) (m n : Nm) (w : World) : (Op.equalIn (d + 2) 24 (.agg m.l.toArray) (.agg n.l.toArray)).run Try.prog w = .ok (decide (m = n)) w := by
  have := eqArr (d := d) (k := .u8) Try.underlying24 Try.sizeOf5 Try.isAgg5 Try.underlying5 (u8i m.b) (u8i n.b) rfl rfl w
  simp only [u8i_inj, Nm.b_inj] at this
  exact this
theorem eq24 (m n : Nm) (w : World) : (Op.equalIn 10000 24 (.agg m.l.toArray) (.agg n.l.toArray)).run Try.prog w = .ok (decide (m = n)) w := eqA24 9998 m n w
theorem run_partA {P : Program} {e : TypeId} {s : Nat} (hs : ∀ w, (sizeOf e).run P w = .ok s w) (ha : ∀ w, (isAgg e).run P w = .ok true w) (l c : List Value) (i : Nat) (hc : (l.drop i).take s = c) (hl : Nat.ble (i + s) l.length = true) (w : World) : (part e l.toArray i).run P w = .ok (.agg c.toArray) w := by
  have : i + s ≤ l.length := Nat.le_of_ble_eq_true hl
  have h2 : (l.take (i + s)).drop i = c := by rw [← hc, List.drop_take]; congr 1; omega
  simp [go_sem, hs, ha, part, this, h2, hc]
theorem eqF {P : Program} {d : Nat} {f : Field} {fs : List Field} {xs ys : Array Value} {u v : Value} {b c : Bool} {w : World} (hn : f.name ≠ "_") (hx : (part f.type xs f.offset).run P w = .ok u w) (hy : (part f.type ys f.offset).run P w = .ok v w)
    (he : (Op.equalIn d f.type u v).run P w = .ok b w) (ih : (Op.eqFields d xs ys fs).run P w = .ok c w) : (Op.eqFields d xs ys (f :: fs)).run P w = .ok (b && c) w := by
  simp only [Op.eqFields, if_pos hn, Sem.run_bind, hx, hy, he, Result.andThen_ok]
  cases b <;> simp [ih]
theorem eqFI {P : Program} {d : Nat} {f : Field} {fs : List Field} {l m : List Value} {k : IntKind} {i j : Int} {c : Bool} {w : World} (hn : f.name ≠ "_") (hs : ∀ w, (sizeOf f.type).run P w = .ok 1 w) (ha : ∀ w, (isAgg f.type).run P w = .ok false w) (ht : P.underlying f.type = some (.int k))
    (hx : l[f.offset]? = some (.int k i)) (hy : m[f.offset]? = some (.int k j)) (ih : (Op.eqFields (d + 1) l.toArray m.toArray fs).run P w = .ok c w) : (Op.eqFields (d + 1) l.toArray m.toArray (f :: fs)).run P w = .ok ((i == j) && c) w :=
  eqF hn (run_part1 hs ha l _ _ hx w) (run_part1 hs ha m _ _ hy w) (run_equalIn_int w d f.type k k i j ht) ih
theorem eqA26 (d : Nat) (m n : Vt) (w : World) : (Op.equalIn (d + 3) 26 (.agg m.l.toArray) (.agg n.l.toArray)).run Try.prog w = .ok (decide (m = n)) w := by
  rw [run_equalIn_struct w (d + 2) 26 _ _ (by kernel_rfl) Try.stoodInHeld26]
  have hf : (Try.prog.fieldsOf 26).toList = [⟨ "Kind", 3, 0, false, "", "", 0⟩, ⟨ "Slot", 3, 1, false, "", "", 8⟩, ⟨ "Round", 3, 2, false, "", "", 16⟩, ⟨ "Choice", 3, 3, false, "", "", 24⟩, ⟨ "Signer", 3, 4, false, "", "", 32⟩, ⟨ "Support", 22, 5, false, "", "", 40⟩, ⟨ "Parent", 24, 6, false, "", "", 48⟩, ⟨ "Value", 24, 14, false, "", "", 56⟩] := by kernel_rfl
  rw [hf]
  have h := eqFI (d := d + 1) (l := m.l) (m := n.l) (w := w) (f := ⟨ "Kind", 3, 0, false, "", "", 0⟩) (by decide) Try.sizeOf3 Try.isAgg3 Try.underlying3 rfl rfl <|
    eqFI (f := ⟨ "Slot", 3, 1, false, "", "", 8⟩) (by decide) Try.sizeOf3 Try.isAgg3 Try.underlying3 rfl rfl <|
    eqFI (f := ⟨ "Round", 3, 2, false, "", "", 16⟩) (by decide) Try.sizeOf3 Try.isAgg3 Try.underlying3 rfl rfl <|
    eqFI (f := ⟨ "Choice", 3, 3, false, "", "", 24⟩) (by decide) Try.sizeOf3 Try.isAgg3 Try.underlying3 rfl rfl <|
    eqFI (f := ⟨ "Signer", 3, 4, false, "", "", 32⟩) (by decide) Try.sizeOf3 Try.isAgg3 Try.underlying3 rfl rfl <|
    eqFI (f := ⟨ "Support", 22, 5, false, "", "", 40⟩) (by decide) Try.sizeOf22 Try.isAgg22 Try.underlying22 rfl rfl <|
    eqF (f := ⟨ "Parent", 24, 6, false, "", "", 48⟩) (by decide) (run_partA Try.sizeOf24 Try.isAgg24 m.l m.parent.l 6 rfl rfl w) (run_partA Try.sizeOf24 Try.isAgg24 n.l n.parent.l 6 rfl rfl w) (eqA24 d _ _ w) <|
    eqF (f := ⟨ "Value", 24, 14, false, "", "", 56⟩) (by decide) (run_partA Try.sizeOf24 Try.isAgg24 m.l m.value.l 14 rfl rfl w) (run_partA Try.sizeOf24 Try.isAgg24 n.l n.value.l 14 rfl rfl w) (eqA24 d _ _ w) <|
    (show (Op.eqFields (d + 2) _ _ []).run Try.prog w = .ok true w from by simp [Op.eqFields])
  refine h.trans (congrArg (fun b => Result.ok b w) ?_)
  rw [Bool.eq_iff_iff]
  rcases m with ⟨a1, a2, a3, a4, a5, a6, a7, a8⟩
  rcases n with ⟨b1, b2, b3, b4, b5, b6, b7, b8⟩
  simp only [Bool.and_eq_true, beq_iff_eq, decide_eq_true_eq, and_true, Vt.mk.injEq]
theorem eq26 (m n : Vt) (w : World) : (Op.equalIn 10000 26 (.agg m.l.toArray) (.agg n.l.toArray)).run Try.prog w = .ok (decide (m = n)) w := eqA26 9997 m n w
theorem places26 (w : World) : ((#[⟨ "Kind", 3, 0, false, "", "", 0⟩, ⟨ "Slot", 3, 1, false, "", "", 8⟩, ⟨ "Round", 3, 2, false, "", "", 16⟩, ⟨ "Choice", 3, 3, false, "", "", 24⟩, ⟨ "Signer", 3, 4, false, "", "", 32⟩, ⟨ "Support", 22, 5, false, "", "", 40⟩, ⟨ "Parent", 24, 6, false, "", "", 48⟩, ⟨ "Value", 24, 14, false, "", "", 56⟩] : Array Field).mapM fun (f : Field) => Prod.mk f.offset <$> sizeOf f.type).run Try.prog w = .ok #[(0, 1), (1, 1), (2, 1), (3, 1), (4, 1), (5, 1), (6, 8), (14, 8)] w := by
  simp [Try.sizeOf3, Try.sizeOf22, Try.sizeOf24, go_sem]
theorem fill92 (a b c d e : Int) : Instr.fill (fun i => some (i * 1, 1)) #[.int .i64 0, .int .i64 0, .int .i64 0, .int .i64 0, .int .i64 0] [(0, i64 a), (1, i64 b), (2, i64 c), (3, i64 d), (4, i64 e)] = some [i64 a, i64 b, i64 c, i64 d, i64 e].toArray := by
  simp [Instr.fill, i64, Value.cells]
theorem info5 : (Try.prog.info? 5).map (fun i => (i.zero, i.size, i.bytes)) = some (some (.int .u8 0), 1, 1) := by kernel_rfl
theorem elt5 : ElT Try.prog 5 1 1 := by
  obtain ⟨i0, hi, hz, hs, hb⟩ := info_parts info5
  exact ⟨i0, _, hi, hz, hs, hb, rfl⟩
theorem zero5 : ∀ i z, Try.prog.info? 5 = some i → i.zero = some z → z = .int .u8 0 := by
  intro i z h1 h2
  have := info5
  rw [h1] at this
  simp only [Option.map_some, h2, Option.some.injEq, Prod.mk.injEq] at this
  exact this.1
theorem R_convB {ρ : Operand → Value} {w : World} {dst : Option Tmp} {ty s : TypeId} {pos : String} {aft : Array Edge} {gd : Option (Nat × Bool)} {x : Operand} {k : IntKind} {m : Int} (hs : ∀ w, (underlying s).run Try.prog w = .ok (.int k) w) (hx : ρ x = .int k m) :
    (execOp ρ ⟨dst, .convert s 5 x, ty, pos, aft, gd⟩).run Try.prog w = .ok (.value (u8 (by8 m))) w := by
  refine R_cast (R_conv hs Try.runUnderlying5 hx) ?_
  simp only [u8, by8_toNat, IntKind.wrap_u8']
theorem R_convU {ρ : Operand → Value} {w : World} {dst : Option Tmp} {ty d : TypeId} {pos : String} {aft : Array Edge} {gd : Option (Nat × Bool)} {x : Operand} {k : IntKind} {b : UInt8} (hd : ∀ w, (underlying d).run Try.prog w = .ok (.int k) w) (hk : k = .i64 ∨ k = .u64) (hx : ρ x = u8 b) :
    (execOp ρ ⟨dst, .convert 5 d x, ty, pos, aft, gd⟩).run Try.prog w = .ok (.value (.int k (b.toNat : Int))) w := by
  refine R_cast (R_conv Try.runUnderlying5 hd hx) ?_
  have := b.toNat_lt
  rcases hk with rfl | rfl
  · exact congrArg (Value.int .i64) (by rw [IntKind.wrap_i64]; omega)
  · exact congrArg (Value.int .u64) (by rw [IntKind.wrap_u64]; omega)
theorem mixed : Try.prog.follows .mixedOrders = true := by kernel_rfl
end Go.Proofs.Yteeopgpgbdhmhaa
