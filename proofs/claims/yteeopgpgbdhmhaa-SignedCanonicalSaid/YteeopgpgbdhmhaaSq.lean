/- Calls of function values; what a row that is sorted through two function values keeps. No condition. -/
import Derived.Test.YteeopgpgbdhmhaaRun
import Derived.Test.YteeopgpgbdhmhaaSo
import Derived.Test.YteeopgpgbdhmhaaTy
namespace Go.Proofs.Yteeopgpgbdhmhaa
open Go.RowKit
theorem Chg.chg {g : Nat} {a b c : World} (h : Chg g a b) (k : Chg g b c) : Chg g a c :=
  ⟨k.os.trans h.os, k.tape.trans h.tape, k.output.trans h.output, Nat.le_trans h.size k.size, fun i hi hg => (k.block i (Nat.lt_of_lt_of_le hi h.size) hg).trans (h.block i hi hg)⟩
theorem Chg.kpo {g b : Nat} {a w w' : World} (h : Chg g a w) (k : Kp b w w') (hb : a.heap.size ≤ b) : Chg g a w' :=
  ⟨k.os.trans h.os, k.tape.trans h.tape, k.output.trans h.output, by rw [k.size]; exact h.size, fun i hi hg => (k.block i (by omega)).trans (h.block i hi hg)⟩
/-- what a call of the function value V gives -/
def CV (P : Program) (V : Value) (vs : List Value) (W : World) (Φ : Value → World → Prop) : Prop :=
  ∃ F cap, V = .func (.func F) #[] cap ∧
    (((callFunc F (vs.toArray ++ cap)).run P W = .ok (.enter F (vs.toArray ++ cap)) W ∧ Calls P F (vs.toArray ++ cap) W (fun e W' => ∃ v, e = .returned v ∧ Φ v W')) ∨
     ∃ v W', (callFunc F (vs.toArray ++ cap)).run P W = .ok (.value v) W' ∧ Φ v W')
section
variable {P : Program} {ops : Array Oper} {Q : Exit → Act → World → Prop} {K : Act → World → Prop} {n : Nat} {f : Nat → Value} {w : World} {d : Option Tmp} {ty : TypeId} {pos : String} {aft : Array Edge}
theorem run_callV {gd : Option (Nat × Bool)} {F : FuncId} {cap : Array Value} {x : Operand} {xs : Array Operand} {ts : Array TypeId} {vs : List Value} (hx : ov n f x = .func (.func F) #[] cap) (hv : xs.toList.map (ov n f) = vs) :
    (execOp (ov n f) ⟨d, .call ⟨.value x, xs, ts⟩, ty, pos, aft, gd⟩).run P w = (callFunc F (vs.toArray ++ cap)).run P w := by
  have : xs.map (ov n f) = vs.toArray := by rw [← hv]; exact Array.toList_inj.1 (by simp)
  simp [go_sem, hx, this, Deferred.ofValue]
theorem D_callV {V : Value} {x : Operand} {xs : Array Operand} {ts : Array TypeId} {vs : List Value} {Φ : Value → World → Prop} (hx : ov n f x = V) (hv : xs.toList.map (ov n f) = vs) (hc : CV P V vs w Φ) (k : ∀ v w', Φ v w' → K (E n (upo f d v)) w') :
    wpO P ops Q ⟨d, .call ⟨.value x, xs, ts⟩, ty, pos, aft, none⟩ K (E n f) w := by
  obtain ⟨F, cap, rfl, h⟩ := hc
  have hr := run_callV (P := P) (w := w) (d := d) (ty := ty) (pos := pos) (aft := aft) (gd := none) (ts := ts) hx hv
  simp only [wpO, Region.wanted, if_true]
  refine .inl ?_
  rcases h with ⟨h1, h2⟩ | ⟨v, w', h1, h2⟩
  · simp only [Oper.wp, E_eval, hr, h1, Oper.upon]
    refine h2.mono ?_
    rintro e w1 ⟨v, rfl, h3⟩
    simp only [E_put]
    exact k v w1 h3
  · simp only [Oper.wp, E_eval, hr, h1, Oper.upon, E_put]
    exact k v w' h2
theorem D_gVB {V : Value} {x : Operand} {xs : Array Operand} {ts : Array TypeId} {vs : List Value} {z : Bool} {j dj : Nat} {want b : Bool} (hj : (ops[j]?).bind (·.dst) = some dj) (hb : ov n f (.tmp dj) = .bool b)
    (hx : b = want → ov n f x = V) (hv : b = want → xs.toList.map (ov n f) = vs) (hc : b = want → CV P V vs w (fun v w' => v = .bool z ∧ Ext w w')) (k : ∀ w', Ext w w' → K (E n (upo f d (cond (b == want) (.bool z) undef))) w') :
    wpO P ops Q ⟨d, .call ⟨.value x, xs, ts⟩, ty, pos, aft, some (j, want)⟩ K (E n f) w := by
  have hw : Region.wanted (⟨d, .call ⟨.value x, xs, ts⟩, ty, pos, aft, some (j, want)⟩ : Oper) (yielded ops (E n f).tmps) = (b == want) := wanted_b rfl hj hb
  simp only [wpO, hw]
  by_cases hbw : b = want
  · have e : (b == want) = true := by simp [hbw]
    rw [e] at k ⊢
    simp only [if_true]
    refine .inl ?_
    obtain ⟨F, cap, rfl, h⟩ := hc hbw
    have hr := run_callV (P := P) (w := w) (d := d) (ty := ty) (pos := pos) (aft := aft) (gd := some (j, want)) (ts := ts) (hx hbw) (hv hbw)
    rcases h with ⟨h1, h2⟩ | ⟨v, w', h1, rfl, h2⟩
    · simp only [Oper.wp, E_eval, hr, h1, Oper.upon]
      refine h2.mono ?_
      rintro e w1 ⟨v, rfl, rfl, h3⟩
      simp only [E_put]
      exact k w1 h3
    · simp only [Oper.wp, E_eval, hr, h1, Oper.upon, E_put]
      exact k w' h2
  · have e : (b == want) = false := by simp [hbw]
    rw [e] at k ⊢
    simp only [Bool.false_eq_true, if_false, E_put]
    exact k w (Ext.refl w)
theorem D_callS {F : FuncId} {args : Array Value} {Ψ : World → Prop} {op : Op} (h : (execOp (ov n f) ⟨d, op, ty, pos, aft, none⟩).run P w = .ok (.enter F args) w) (hc : Calls P F args w (fun e w' => e = .returned (.tuple #[]) ∧ Ψ w'))
    (k : ∀ w', Ψ w' → K (E n (upo f d (.tuple #[]))) w') : wpO P ops Q ⟨d, op, ty, pos, aft, none⟩ K (E n f) w := by
  simp only [wpO, Region.wanted, if_true]
  refine .inl ?_
  simp only [Oper.wp, E_eval, h, Oper.upon]
  refine hc.mono ?_
  rintro e w1 ⟨rfl, h1⟩
  simp only [E_put]
  exact k w1 h1
end
/-- A row of n elements in block g, read through lf and turned through sf. -/
structure Srt (P : Program) {α : Type} (S : (Nat → α) → World → Prop) (gB n : Nat) (lf sf : Value) (lt : α → α → Bool) : Prop where
  ord : Ordd lt
  lp : plainV lf = true
  sp : plainV sf = true
  nb : n ≤ 1000000
  bound : ∀ f W, S f W → gB < W.heap.size
  ext : ∀ f W W', S f W → Ext W W' → S f W'
  less : ∀ f W (i j : Nat), S f W → i < n → j < n → CV P lf [i64 (i : Int), i64 (j : Int)] W (fun v W' => v = .bool (lt (f i) (f j)) ∧ Ext W W')
  swap : ∀ f W (i j : Nat), S f W → i < n → j < n → CV P sf [i64 (i : Int), i64 (j : Int)] W (fun v W' => v = .tuple #[] ∧ Chg gB W W' ∧ S (swp f i j) W')
/-- the call has turned the row, and nothing else that was there -/
def RetS (gB : Nat) (w : World) (Ψ : World → Prop) : Ending → World → Prop := fun e w' => e = .returned (.tuple #[]) ∧ Chg gB w w' ∧ Ψ w'
section
variable {P : Program} {ρ : Operand → Value} {w : World} {dst : Option Tmp} {ty : TypeId} {pos : String} {aft : Array Edge} {gd : Option (Nat × Bool)} {t t' : TypeId} {x y : Operand}
theorem R_cvU {s d : TypeId} {m : Nat} (hs : ∀ w, (underlying s).run P w = .ok (.int .i64) w) (hd : ∀ w, (underlying d).run P w = .ok (.int .u64) w) (hx : ρ x = .int .i64 (m : Int)) (hm : m ≤ 140737488355328) : (execOp ρ ⟨dst, .convert s d x, ty, pos, aft, gd⟩).run P w = .ok (.value (.int .u64 (m : Int))) w :=
  R_cast (R_conv hs hd hx) (congrArg (Value.int .u64) (by rw [IntKind.wrap_u64]; omega))
theorem R_cvI {s d : TypeId} {m : Nat} (hs : ∀ w, (underlying s).run P w = .ok (.int .u64) w) (hd : ∀ w, (underlying d).run P w = .ok (.int .i64) w) (hx : ρ x = .int .u64 (m : Int)) (hm : m ≤ 140737488355328) : (execOp ρ ⟨dst, .convert s d x, ty, pos, aft, gd⟩).run P w = .ok (.value (.int .i64 (m : Int))) w :=
  R_cast (R_conv hs hd hx) (congrArg (Value.int .i64) (by rw [IntKind.wrap_i64]; omega))
theorem R_shrU {m : Nat} {k' : IntKind} (hx : ρ x = .int .u64 (m : Int)) (hy : ρ y = .int k' 1) : (execOp ρ ⟨dst, .binOp .shr t x y t', ty, pos, aft, gd⟩).run P w = .ok (.value (.int .u64 ((m / 2 : Nat) : Int))) w :=
  R_cast (R_shr hx hy (by decide)) (congrArg (Value.int .u64) (by
    have : min ((1 : Int).toNat) IntKind.u64.bits = 1 := by decide
    rw [this]; omega))
end
end Go.Proofs.Yteeopgpgbdhmhaa
