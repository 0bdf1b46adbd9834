/- The engine of the walks: frames as functions, one lemma an operation. No condition. -/
import Derived.WalkKit
import Derived.Deep.Quiet
import Derived.OrdersHeld
import Derived.StillTail
import Derived.LoopN
namespace Go.Proofs.Yteeopgpgbdhmhaa
open Go.RowKit
/-! ### frames -/
def up (f : Nat → Value) (d : Nat) (v : Value) (i : Nat) : Value := cond (Nat.beq i d) v (f i)
def upo (f : Nat → Value) (d : Option Tmp) (v : Value) : Nat → Value := match d with | some d => up f d v | none => f
def E (n : Nat) (f : Nat → Value) : Act := { tmps := Array.ofFn (n := n) fun i => f i.val, defers := [] }
def ov (n : Nat) (f : Nat → Value) : Operand → Value
  | .tmp t => cond (Nat.blt t n) (f t) undef
  | .const v => v
  | .global g => .pointer (some ⟨g, 0, none⟩)
  | .func f => .func (.func f) #[] #[]
theorem blt_true {t n : Nat} (h : t < n) : Nat.blt t n = true := Nat.ble_eq_true_of_le h
theorem blt_false {t n : Nat} (h : ¬ t < n) : Nat.blt t n = false := by
  cases hb : Nat.blt t n with
  | false => rfl
  | true => exact absurd (Nat.le_of_ble_eq_true hb) h
theorem E_getD (n : Nat) (f : Nat → Value) (t : Nat) : (E n f).tmps.getD t undef = cond (Nat.blt t n) (f t) undef := by
  unfold E
  by_cases h : t < n
  · rw [blt_true h]; simp [h]
  · rw [blt_false h]; simp [h]
theorem E_eval (n : Nat) (f : Nat → Value) : (E n f).eval = ov n f := by
  funext x
  cases x <;> simp only [Act.eval, ov]
  exact E_getD n f _
theorem E_put (n : Nat) (f : Nat → Value) (d : Option Tmp) (v : Value) : (E n f).put d v = E n (upo f d v) := by
  cases d with
  | none => rfl
  | some d =>
    simp only [Act.put, E, upo]
    congr 1
    apply Array.ext
    · simp
    · intro i h1 h2
      have h3 : i < n := by simpa using h2
      rw [Array.getElem_setIfInBounds (by simpa using h3)]
      by_cases hd : d = i
      · subst hd; simp [up]
      · have : Nat.beq i d = false := by
          cases hb : Nat.beq i d with
          | false => rfl
          | true => exact absurd (Nat.eq_of_beq_eq_true hb).symm hd
        simp [hd, up, this]
def Ext (w w' : World) : Prop := Below w.heap.size w w'
theorem Ext.refl (w : World) : Ext w w := Below.refl _ _
theorem Ext.trans {a b c : World} (h : Ext a b) (k : Ext b c) : Ext a c := Below.trans h (Below.mono k h.size)
theorem Ext.alloc (w : World) (o : Obj) : Ext w (w.alloc o) := (Below.refl _ _).alloc (Nat.le_refl _) _
theorem Ext.drew (w : World) : Ext w { w with drawn := w.drawn + 1 } := ⟨rfl, rfl, rfl, Nat.le_refl _, fun _ _ => rfl⟩
theorem Ext.size {w w' : World} (h : Ext w w') : w.heap.size ≤ w'.heap.size := Below.size h
/-- Block g of w holds the cells l. -/
def Blk (w : World) (g : Nat) (l : List Value) (T : TypeId) : Prop := w.heap[g]? = some (.cells l.toArray T (0, 0))
theorem Blk.lt {w : World} {g : Nat} {l : List Value} {T : TypeId} (h : Blk w g l T) : g < w.heap.size := (Array.getElem?_eq_some_iff.1 h).1
theorem Blk.ext {w w' : World} {g : Nat} {l : List Value} {T : TypeId} (h : Blk w g l T) (e : Ext w w') : Blk w' g l T := (Below.block e g h.lt).trans h
theorem Blk.new (w : World) (l : List Value) (T : TypeId) : Blk (w.alloc (.cells l.toArray T)) w.heap.size l T := by
  simpa [Blk] using heap_alloc_new w (.cells l.toArray T)
theorem Blk.cell {w : World} {g : Nat} {l : List Value} {T : TypeId} (h : Blk w g l T) (o : Nat) : w.cell? ⟨g, o, none⟩ = l[o]? := by
  simp only [World.cell?, show w.heap[g]? = _ from h]; simp
/-- w' is w but for what block g holds. -/
structure Kp (g : Nat) (w w' : World) : Prop where
  os : w'.os = w.os
  tape : w'.tape = w.tape
  output : w'.output = w.output
  size : w'.heap.size = w.heap.size
  block : ∀ k, k ≠ g → w'.heap[k]? = w.heap[k]?
theorem Kp.refl (g : Nat) (w : World) : Kp g w w := ⟨rfl, rfl, rfl, rfl, fun _ _ => rfl⟩
theorem Kp.trans {g : Nat} {a b c : World} (h : Kp g a b) (k : Kp g b c) : Kp g a c :=
  ⟨k.os.trans h.os, k.tape.trans h.tape, k.output.trans h.output, k.size.trans h.size, fun i hi => (k.block i hi).trans (h.block i hi)⟩

theorem Ext.kp {a w w' : World} {g : Nat} (h : Ext a w) (k : Kp g w w') (hg : a.heap.size ≤ g) : Ext a w' :=
  ⟨k.os.trans h.os, k.tape.trans h.tape, k.output.trans h.output, by rw [k.size]; exact h.size, fun i hi => (k.block i (by omega)).trans (Below.block h i hi)⟩
theorem Blk.kp {w w' : World} {g g' : Nat} {l : List Value} {T : TypeId} (h : Blk w g' l T) (k : Kp g w w') (hn : g' ≠ g) : Blk w' g' l T := (k.block g' hn).trans h
theorem Blk.ne {w : World} {g g' : Nat} {l : List Value} {T : TypeId} (h : Blk w g l T) (hg : w.heap.size ≤ g') : g ≠ g' := Nat.ne_of_lt (Nat.lt_of_lt_of_le h.lt hg)
/-- w' is w but for what block g holds, and for new blocks. -/
structure Chg (g : Nat) (w w' : World) : Prop where
  os : w'.os = w.os
  tape : w'.tape = w.tape
  output : w'.output = w.output
  size : w.heap.size ≤ w'.heap.size
  block : ∀ k, k < w.heap.size → k ≠ g → w'.heap[k]? = w.heap[k]?
theorem Chg.refl (g : Nat) (w : World) : Chg g w w := ⟨rfl, rfl, rfl, Nat.le_refl _, fun _ _ _ => rfl⟩
theorem Chg.trans {g : Nat} {a b c : World} (h : Chg g a b) (e : Ext b c) : Chg g a c :=
  ⟨(Below.os e).trans h.os, (Below.tape e).trans h.tape, (Below.output e).trans h.output, Nat.le_trans h.size e.size, fun k hk hg => (Below.block e k (Nat.lt_of_lt_of_le hk h.size)).trans (h.block k hk hg)⟩
theorem Chg.kp {g : Nat} {a b c : World} (h : Chg g a b) (k : Kp g b c) (_ : True) : Chg g a c :=
  ⟨k.os.trans h.os, k.tape.trans h.tape, k.output.trans h.output, by rw [k.size]; exact h.size, fun i hi hg => (k.block i hg).trans (h.block i hi hg)⟩
theorem Ext.chg {a w w' : World} {g : Nat} (h : Ext a w) (k : Chg g w w') (hg : a.heap.size ≤ g) : Ext a w' :=
  ⟨k.os.trans (Below.os h), k.tape.trans (Below.tape h), k.output.trans (Below.output h), Nat.le_trans (Below.size h) k.size, fun i hi => (k.block i (Nat.lt_of_lt_of_le hi (Below.size h)) (by omega)).trans (Below.block h i hi)⟩
theorem Blk.chg {w w' : World} {g g' : Nat} {l : List Value} {T : TypeId} (h : Blk w g' l T) (k : Chg g w w') (hn : g' ≠ g) : Blk w' g' l T := (k.block g' h.lt hn).trans h
def plainV : Value → Bool
  | .agg _ => false
  | .tuple _ => false
  | _ => true
theorem run_store1 {P : Program} {w : World} {g o : Nat} {l : List Value} {T : TypeId} {v : Value} (hb : Blk w g l T) (hv : plainV v = true) (ho : o < l.length) :
    ∃ w', (store ⟨g, o, none⟩ v).run P w = .ok () w' ∧ Kp g w w' ∧ Blk w' g (l.set o v) T := by
  have hc : w.cell? ⟨g, o, none⟩ = some l[o] := by rw [hb.cell]; exact List.getElem?_eq_getElem ho
  have hf : w.frozen? ⟨g, o, none⟩ = false := by simp only [World.frozen?, show w.heap[g]? = _ from hb]; simp
  refine ⟨w.setCell ⟨g, o, none⟩ v, ?_, ⟨rfl, rfl, rfl, by simp [World.setCell], fun k hk => by simp only [World.setCell, Array.getElem?_modify]; rw [if_neg (fun e => hk e.symm)]⟩, ?_⟩
  · cases v <;> simp_all [store, Sem.run, plainV]
  · have hb' : w.heap[g]? = some (.cells l.toArray T (0, 0)) := hb
    unfold Blk World.setCell
    simp only [Array.getElem?_modify, if_true, hb', Option.map_some]
    simp
theorem run_storeCells {P : Program} {g o : Nat} {T : TypeId} : ∀ (c : List Value) (w : World) (l : List Value) (i : Nat), Blk w g l T → c.all plainV = true → o + i + c.length ≤ l.length →
    ∃ w', (storeCells ⟨g, o, none⟩ c i).run P w = .ok () w' ∧ Kp g w w' ∧ Blk w' g (l.take (o + i) ++ c ++ l.drop (o + i + c.length)) T := by
  intro c
  induction c with
  | nil => intro w l i hb _ _; exact ⟨w, by simp [storeCells], Kp.refl _ _, by simpa using hb⟩
  | cons v c ih =>
    intro w l i hb hp hl
    simp only [List.all_cons, Bool.and_eq_true] at hp
    simp only [List.length_cons] at hl
    obtain ⟨w1, h1, k1, b1⟩ := run_store1 (P := P) hb hp.1 (show o + i < l.length by omega)
    obtain ⟨w2, h2, k2, b2⟩ := ih w1 _ (i + 1) b1 hp.2 (by simp; omega)
    refine ⟨w2, ?_, k1.trans k2, ?_⟩
    · have ha : (⟨g, o, none⟩ : Addr).add i = ⟨g, o + i, none⟩ := by unfold Addr.add; split <;> simp_all
      simp only [storeCells, Sem.run_bind, ha, h1, Result.andThen_ok, h2]
    · have e : (l.set (o + i) v).take (o + (i + 1)) ++ c ++ (l.set (o + i) v).drop (o + (i + 1) + c.length) = l.take (o + i) ++ v :: c ++ l.drop (o + i + (v :: c).length) := by
        have hlt : o + i < l.length := by omega
        rw [List.drop_set_of_lt (by omega), List.take_set, ← Nat.add_assoc, List.take_succ_eq_append_getElem hlt, List.set_append_right _ _ (by simp; omega)]
        simp [Nat.min_eq_left (Nat.le_of_lt hlt), Nat.add_assoc, Nat.add_comm 1]
      rw [e] at b2
      exact b2
/-- The call returns v; the world is as it was, but for new blocks. -/
def Ret (w : World) (v : Value) : Ending → World → Prop := fun e w' => e = .returned v ∧ Ext w w'
/-- The call changes block g, and nothing else that was there; it returns nothing. -/
def RetM (w : World) (g : Nat) (l : List Value) (T : TypeId) : Ending → World → Prop := fun e w' => e = .returned (.tuple #[]) ∧ Chg g w w' ∧ Blk w' g l T
/-! ### entering, leaving -/
theorem enter {P : Program} {F : FuncId} {fn : Func} {c : Code} {n : Nat} {l : List Value} {w : World} {R : Ending → World → Prop} (hf : P.funcs[F]? = some fn) (hn : fn.ntmps = n) (hb : fn.body = some c) (hl : Nat.ble l.length n = true)
    (h : c.wp P (bodyPost P fn R) (E n (fun i => l.getD i undef)) w) : Calls P F l.toArray w R := by
  refine calls_of_wp hf hb ?_
  have : E n (fun i => l.getD i undef) = { tmps := l.toArray ++ Array.replicate (fn.ntmps - l.toArray.size) undef, defers := [] } := by
    unfold E
    congr 1
    have hl' : l.length ≤ n := by simpa using hl
    apply Array.ext
    · simp [hn]; omega
    · intro i h1 h2
      simp only [Array.size_ofFn] at h1
      simp only [Array.getElem_ofFn]
      by_cases hi : i < l.length
      · rw [Array.getElem_append_left (by simpa using hi)]; simp [List.getD, hi]
      · rw [Array.getElem_append_right (by simpa using hi)]; simp [List.getD, hi]
  rw [this] at h
  exact h
theorem ret1 {P : Program} {fn : Func} {R : Ending → World → Prop} {n t : Nat} {f : Nat → Value} {w : World} {v : Value} (hr : fn.results = #[.tmp t]) (hv : ov n f (.tmp t) = v) (h : R (.returned v) w) : bodyPost P fn R .ret (E n f) w :=
  bodyPost_ret (results_tmp hr _ _ _) rfl (by rw [E_getD]; subst hv; exact h)
theorem ret2 {P : Program} {fn : Func} {R : Ending → World → Prop} {n t u : Nat} {f : Nat → Value} {w : World} {v v2 : Value} (hr : fn.results = #[.tmp t, .tmp u]) (hv : ov n f (.tmp t) = v) (hv2 : ov n f (.tmp u) = v2) (h : R (.returned (.tuple #[v, v2])) w) : bodyPost P fn R .ret (E n f) w :=
  bodyPost_ret (results_tmp2 hr _ _ _) rfl (by rw [E_getD, E_getD]; subst hv hv2; exact h)
/-! ### steps of a region in the text's order -/
section
variable {P : Program} {ops : Array Oper} {Q : Exit → Act → World → Prop} {K : Act → World → Prop} {rest : List Oper} {n : Nat} {f : Nat → Value} {w w' : World} {d : Option Tmp} {op : Op} {ty : TypeId} {pos : String} {aft : Array Edge}
/-- One operation, and what follows. -/
def wpO (P : Program) (ops : Array Oper) (Q : Exit → Act → World → Prop) (o : Oper) (K : Act → World → Prop) (a : Act) (w : World) : Prop :=
  if Region.wanted o (yielded ops a.tmps) then o.wp P a w K Q ∨ (o.asks P a w ∧ LetsOut Q) else K (a.put o.dst undef) w
theorem L {o : Oper} {a : Act} (h : wpO P ops Q o (wpList P ops Q rest) a w) : wpList P ops Q (o :: rest) a w := h
theorem D_v {v : Value} (h : (execOp (ov n f) ⟨d, op, ty, pos, aft, none⟩).run P w = .ok (.value v) w') (k : K (E n (upo f d v)) w') :
    wpO P ops Q ⟨d, op, ty, pos, aft, none⟩ K (E n f) w := by
  simp only [wpO, Region.wanted, if_true]
  refine .inl ?_
  simp only [Oper.wp, E_eval, h, Oper.upon, E_put]
  exact k
theorem D_skip (h : (execOp (ov n f) ⟨d, op, ty, pos, aft, none⟩).run P w = .ok .skip w') (k : K (E n (upo f d undef)) w') :
    wpO P ops Q ⟨d, op, ty, pos, aft, none⟩ K (E n f) w := by
  simp only [wpO, Region.wanted, if_true]
  refine .inl ?_
  simp only [Oper.wp, E_eval, h, Oper.upon, E_put]
  exact k
theorem D_call {F : FuncId} {args : Array Value} {v : Value} (h : (execOp (ov n f) ⟨d, op, ty, pos, aft, none⟩).run P w = .ok (.enter F args) w) (hc : Calls P F args w (Ret w v))
    (k : ∀ w', Ext w w' → K (E n (upo f d v)) w') :
    wpO P ops Q ⟨d, op, ty, pos, aft, none⟩ K (E n f) w := by
  simp only [wpO, Region.wanted, if_true]
  refine .inl ?_
  simp only [Oper.wp, E_eval, h, Oper.upon]
  refine hc.mono ?_
  rintro e w1 ⟨rfl, h1⟩
  simp only [E_put]
  exact k w1 h1
theorem yielded_gv {j dj : Nat} {b g : Bool} (hj : (ops[j]?).bind (·.dst) = some dj) (hb : ov n f (.tmp dj) = cond g (.bool b) undef) :
    yielded ops (E n f).tmps j = cond g (some b) none := by
  simp only [ov] at hb
  simp only [yielded, hj, Option.bind_some]
  by_cases h : dj < n
  · rw [blt_true h] at hb
    have : (E n f).tmps[dj]? = some (cond g (.bool b) undef) := by
      rw [← hb]; simp [E, h]
    rw [this]
    cases g <;> rfl
  · rw [blt_false h] at hb
    have : (E n f).tmps[dj]? = none := by simp [E]; omega
    rw [this]
    cases g with
    | false => rfl
    | true => exact absurd hb (by simp [undef])
theorem wanted_gv {j dj : Nat} {want : Bool} {b g : Bool} {o : Oper} (ho : o.guard = some (j, want)) (hj : (ops[j]?).bind (·.dst) = some dj) (hb : ov n f (.tmp dj) = cond g (.bool b) undef) :
    Region.wanted o (yielded ops (E n f).tmps) = (g && (b == want)) := by
  simp only [Region.wanted, ho, yielded_gv hj hb]
  cases g <;> simp
theorem wanted_b {j dj : Nat} {want : Bool} {b : Bool} {o : Oper} (ho : o.guard = some (j, want)) (hj : (ops[j]?).bind (·.dst) = some dj) (hb : ov n f (.tmp dj) = .bool b) :
    Region.wanted o (yielded ops (E n f).tmps) = (b == want) := by
  have := wanted_gv (g := true) ho hj hb
  simpa using this
/-- A guarded operation that cannot fail where it is wanted: its slot holds the value there, and nothing else. -/
theorem D_gw {c : Bool} {o : Oper} {v : Value} (hw : Region.wanted o (yielded ops (E n f).tmps) = c)
    (h : c = true → (execOp (ov n f) o).run P w = .ok (.value v) w) (k : K (E n (upo f o.dst (cond c v undef))) w) :
    wpO P ops Q o K (E n f) w := by
  simp only [wpO, hw]
  cases c with
  | false => simp only [Bool.false_eq_true, if_false, E_put]; exact k
  | true =>
    simp only [if_true]
    refine .inl ?_
    simp only [Oper.wp, E_eval, h rfl, Oper.upon, E_put]
    exact k
theorem D_gwcall {c : Bool} {o : Oper} {F : FuncId} {args : Array Value} {v : Value} (hw : Region.wanted o (yielded ops (E n f).tmps) = c)
    (h : c = true → (execOp (ov n f) o).run P w = .ok (.enter F args) w) (hc : c = true → Calls P F args w (Ret w v))
    (k : ∀ w', Ext w w' → K (E n (upo f o.dst (cond c v undef))) w') :
    wpO P ops Q o K (E n f) w := by
  simp only [wpO, hw]
  cases c with
  | false => simp only [Bool.false_eq_true, if_false, E_put]; exact k w (Ext.refl w)
  | true =>
    simp only [if_true]
    refine .inl ?_
    simp only [Oper.wp, E_eval, h rfl, Oper.upon]
    refine (hc rfl).mono ?_
    rintro e w1 ⟨rfl, h1⟩
    simp only [E_put]
    exact k w1 h1
section
variable {j dj : Nat} {want b g : Bool} {v : Value}
theorem D_g1 (hj : (ops[j]?).bind (·.dst) = some dj) (hb : ov n f (.tmp dj) = .bool b)
    (h : b = want → (execOp (ov n f) ⟨d, op, ty, pos, aft, some (j, want)⟩).run P w = .ok (.value v) w) (k : K (E n (upo f d (cond (b == want) v undef))) w) :
    wpO P ops Q ⟨d, op, ty, pos, aft, some (j, want)⟩ K (E n f) w :=
  D_gw (wanted_b rfl hj hb) (fun hc => h (by simpa using hc)) k
theorem D_g2 (hj : (ops[j]?).bind (·.dst) = some dj) (hb : ov n f (.tmp dj) = cond g (.bool b) undef)
    (h : g = true → b = want → (execOp (ov n f) ⟨d, op, ty, pos, aft, some (j, want)⟩).run P w = .ok (.value v) w) (k : K (E n (upo f d (cond (g && (b == want)) v undef))) w) :
    wpO P ops Q ⟨d, op, ty, pos, aft, some (j, want)⟩ K (E n f) w :=
  D_gw (wanted_gv rfl hj hb) (fun hc => by simp only [Bool.and_eq_true, beq_iff_eq] at hc; exact h hc.1 hc.2) k
theorem D_gc1 {F : FuncId} {args : Array Value} (hj : (ops[j]?).bind (·.dst) = some dj) (hb : ov n f (.tmp dj) = .bool b)
    (h : b = want → (execOp (ov n f) ⟨d, op, ty, pos, aft, some (j, want)⟩).run P w = .ok (.enter F args) w) (hc : b = want → Calls P F args w (Ret w v))
    (k : ∀ w', Ext w w' → K (E n (upo f d (cond (b == want) v undef))) w') :
    wpO P ops Q ⟨d, op, ty, pos, aft, some (j, want)⟩ K (E n f) w :=
  D_gwcall (wanted_b rfl hj hb) (fun hc => h (by simpa using hc)) (fun h => hc (by simpa using h)) k
theorem D_gc2 {F : FuncId} {args : Array Value} (hj : (ops[j]?).bind (·.dst) = some dj) (hb : ov n f (.tmp dj) = cond g (.bool b) undef)
    (h : g = true → b = want → (execOp (ov n f) ⟨d, op, ty, pos, aft, some (j, want)⟩).run P w = .ok (.enter F args) w) (hc : g = true → b = want → Calls P F args w (Ret w v))
    (k : ∀ w', Ext w w' → K (E n (upo f d (cond (g && (b == want)) v undef))) w') :
    wpO P ops Q ⟨d, op, ty, pos, aft, some (j, want)⟩ K (E n f) w :=
  D_gwcall (wanted_gv rfl hj hb) (fun hc => by simp only [Bool.and_eq_true, beq_iff_eq] at hc; exact h hc.1 hc.2) (fun h => by simp only [Bool.and_eq_true, beq_iff_eq] at h; exact hc h.1 h.2) k
/-! ### the same in a region whose order is drawn: each operation gives one value, whatever the world above w0 -/
variable {Kq : Act → Prop} {w0 : World}
theorem Q_gw {c : Bool} {o : Oper} (hw : Region.wanted o (yielded ops (E n f).tmps) = c)
    (h : c = true → ∀ w, Ext w0 w → (execOp (ov n f) o).run P w = .ok (.value v) w) (k : wpQuiet P ops (Ext w0) Kq rest (E n (upo f o.dst (cond c v undef)))) :
    wpQuiet P ops (Ext w0) Kq (o :: rest) (E n f) := by
  simp only [wpQuiet, hw]
  cases c with
  | false => simp only [Bool.false_eq_true, if_false, E_put]; exact k
  | true =>
    simp only [if_true]
    refine ⟨v, fun w hw' => ?_, by rw [E_put]; exact k⟩
    simp only [Oper.quietAt, E_eval, h rfl w hw', Oper.quietUpon, and_self]
theorem Q_gwcall {c : Bool} {o : Oper} {F : FuncId} {args : Array Value} (hw : Region.wanted o (yielded ops (E n f).tmps) = c)
    (h : c = true → ∀ w, Ext w0 w → (execOp (ov n f) o).run P w = .ok (.enter F args) w) (hc : c = true → ∀ w, Ext w0 w → Calls P F args w (Ret w v)) (k : wpQuiet P ops (Ext w0) Kq rest (E n (upo f o.dst (cond c v undef)))) :
    wpQuiet P ops (Ext w0) Kq (o :: rest) (E n f) := by
  simp only [wpQuiet, hw]
  cases c with
  | false => simp only [Bool.false_eq_true, if_false, E_put]; exact k
  | true =>
    simp only [if_true]
    refine ⟨v, fun w hw' => ?_, by rw [E_put]; exact k⟩
    simp only [Oper.quietAt, E_eval, h rfl w hw', Oper.quietUpon, true_and]
    exact (hc rfl w hw').mono fun e w' he => ⟨he.1, hw'.trans he.2⟩
theorem Q_v (h : ∀ w, Ext w0 w → (execOp (ov n f) ⟨d, op, ty, pos, aft, none⟩).run P w = .ok (.value v) w) (k : wpQuiet P ops (Ext w0) Kq rest (E n (upo f d v))) :
    wpQuiet P ops (Ext w0) Kq (⟨d, op, ty, pos, aft, none⟩ :: rest) (E n f) :=
  Q_gw (c := true) rfl (fun _ => h) k
theorem Q_call {F : FuncId} {args : Array Value} (h : ∀ w, Ext w0 w → (execOp (ov n f) ⟨d, op, ty, pos, aft, none⟩).run P w = .ok (.enter F args) w) (hc : ∀ w, Ext w0 w → Calls P F args w (Ret w v)) (k : wpQuiet P ops (Ext w0) Kq rest (E n (upo f d v))) :
    wpQuiet P ops (Ext w0) Kq (⟨d, op, ty, pos, aft, none⟩ :: rest) (E n f) :=
  Q_gwcall (c := true) rfl (fun _ => h) (fun _ => hc) k
theorem Q_g1 (hj : (ops[j]?).bind (·.dst) = some dj) (hb : ov n f (.tmp dj) = .bool b)
    (h : b = want → ∀ w, Ext w0 w → (execOp (ov n f) ⟨d, op, ty, pos, aft, some (j, want)⟩).run P w = .ok (.value v) w) (k : wpQuiet P ops (Ext w0) Kq rest (E n (upo f d (cond (b == want) v undef)))) :
    wpQuiet P ops (Ext w0) Kq (⟨d, op, ty, pos, aft, some (j, want)⟩ :: rest) (E n f) :=
  Q_gw (wanted_b rfl hj hb) (fun hc => h (by simpa using hc)) k
theorem Q_g2 (hj : (ops[j]?).bind (·.dst) = some dj) (hb : ov n f (.tmp dj) = cond g (.bool b) undef)
    (h : g = true → b = want → ∀ w, Ext w0 w → (execOp (ov n f) ⟨d, op, ty, pos, aft, some (j, want)⟩).run P w = .ok (.value v) w) (k : wpQuiet P ops (Ext w0) Kq rest (E n (upo f d (cond (g && (b == want)) v undef)))) :
    wpQuiet P ops (Ext w0) Kq (⟨d, op, ty, pos, aft, some (j, want)⟩ :: rest) (E n f) :=
  Q_gw (wanted_gv rfl hj hb) (fun hc => by simp only [Bool.and_eq_true, beq_iff_eq] at hc; exact h hc.1 hc.2) k
theorem Q_gc1 {F : FuncId} {args : Array Value} (hj : (ops[j]?).bind (·.dst) = some dj) (hb : ov n f (.tmp dj) = .bool b)
    (h : b = want → ∀ w, Ext w0 w → (execOp (ov n f) ⟨d, op, ty, pos, aft, some (j, want)⟩).run P w = .ok (.enter F args) w) (hc : b = want → ∀ w, Ext w0 w → Calls P F args w (Ret w v))
    (k : wpQuiet P ops (Ext w0) Kq rest (E n (upo f d (cond (b == want) v undef)))) :
    wpQuiet P ops (Ext w0) Kq (⟨d, op, ty, pos, aft, some (j, want)⟩ :: rest) (E n f) :=
  Q_gwcall (wanted_b rfl hj hb) (fun hc => h (by simpa using hc)) (fun h => hc (by simpa using h)) k
theorem Q_gc2 {F : FuncId} {args : Array Value} (hj : (ops[j]?).bind (·.dst) = some dj) (hb : ov n f (.tmp dj) = cond g (.bool b) undef)
    (h : g = true → b = want → ∀ w, Ext w0 w → (execOp (ov n f) ⟨d, op, ty, pos, aft, some (j, want)⟩).run P w = .ok (.enter F args) w) (hc : g = true → b = want → ∀ w, Ext w0 w → Calls P F args w (Ret w v))
    (k : wpQuiet P ops (Ext w0) Kq rest (E n (upo f d (cond (g && (b == want)) v undef)))) :
    wpQuiet P ops (Ext w0) Kq (⟨d, op, ty, pos, aft, some (j, want)⟩ :: rest) (E n f) :=
  Q_gwcall (wanted_gv rfl hj hb) (fun hc => by simp only [Bool.and_eq_true, beq_iff_eq] at hc; exact h hc.1 hc.2) (fun h => by simp only [Bool.and_eq_true, beq_iff_eq] at h; exact hc h.1 h.2) k
theorem Q_nil (h : Kq (E n f)) : wpQuiet P ops (Ext w0) Kq [] (E n f) := h
theorem cgE {u : Value} (h : b = want) : cond (b == want) v u = v := by subst h; simp
theorem cgA {u : Value} (hg : g = true) (h : b = want) : cond (g && (b == want)) v u = v := by subst hg h; simp
theorem cgB {u : Value} (hg : g = true) : cond g v u = v := by subst hg; rfl
theorem cgC {c : Bool} {u : Value} (hg : g = true) : cond (g && c) v u = cond c v u := by subst hg; rfl
end
theorem D_box {e : TypeId} {x : Operand} {c : List Value} (hx : ov n f x = .agg c.toArray)
    (k : ∀ g w', Ext w w' → w.heap.size ≤ g → Blk w' g c e → K (E n (upo f d (.pointer (some ⟨g, 0, none⟩)))) w') :
    wpO P ops Q ⟨d, .box e x, ty, pos, aft, none⟩ K (E n f) w :=
  D_v (v := .pointer (some ⟨w.heap.size, 0, none⟩)) (w' := w.alloc (.cells c.toArray e)) (by simp [go_sem, hx]) (k _ _ (Ext.alloc _ _) (Nat.le_refl _) (Blk.new _ _ _))
theorem D_box1 {e : TypeId} {x : Operand} {v : Value} (hx : ov n f x = v) (h1 : v.cells = #[v])
    (k : ∀ g w', Ext w w' → w.heap.size ≤ g → Blk w' g [v] e → K (E n (upo f d (.pointer (some ⟨g, 0, none⟩)))) w') :
    wpO P ops Q ⟨d, .box e x, ty, pos, aft, none⟩ K (E n f) w :=
  D_v (v := .pointer (some ⟨w.heap.size, 0, none⟩)) (w' := w.alloc (.cells [v].toArray e)) (by unfold Value.cells at h1; simp [go_sem, hx, h1]) (k _ _ (Ext.alloc _ _) (Nat.le_refl _) (Blk.new _ _ _))
theorem D_alloc {e : TypeId} {z : Value} {c : List Value} (hz : ∀ w, (zeroValue e).run P w = .ok z w) (hc : z.cells = c.toArray)
    (k : ∀ g w', Ext w w' → w.heap.size ≤ g → Blk w' g c e → K (E n (upo f d (.pointer (some ⟨g, 0, none⟩)))) w') :
    wpO P ops Q ⟨d, .alloc e, ty, pos, aft, none⟩ K (E n f) w :=
  D_v (v := .pointer (some ⟨w.heap.size, 0, none⟩)) (w' := w.alloc (.cells c.toArray e)) (by unfold Value.cells at hc; simp [go_sem, hz, hc]) (k _ _ (Ext.alloc _ _) (Nat.le_refl _) (Blk.new _ _ _))
theorem D_store1 {t : TypeId} {x y : Operand} {g o : Nat} {l : List Value} {T : TypeId} {v : Value} (hs : ∀ w, (sizeOf t).run P w = .ok 1 w) (hb : Blk w g l T) (hx : ov n f x = .pointer (some ⟨g, o, none⟩)) (hy : ov n f y = v) (hv : plainV v = true) (ho : Nat.blt o l.length = true)
    (k : ∀ w', Kp g w w' → Blk w' g (l.set o v) T → K (E n (upo f d undef)) w') :
    wpO P ops Q ⟨d, .store t x y, ty, pos, aft, none⟩ K (E n f) w := by
  obtain ⟨w', h1, h2, h3⟩ := run_store1 (P := P) hb hv (Nat.le_of_ble_eq_true ho)
  have hc : v.cells = #[v] := by cases v <;> simp_all [Value.cells, plainV]
  have hst : (storeVar t ⟨g, o, none⟩ v).run P w = .ok () w' := by
    simp only [storeVar, hc]
    simp [hs, storeCells, Addr.add, h1]
  refine D_skip ?_ (k w' h2 h3)
  simp only [execOp, hx, hy, Instr.storeAt, Instr.sureAddr]
  simp [hst]
theorem D_storeA {t : TypeId} {x y : Operand} {g o s : Nat} {l c : List Value} {T : TypeId} (hs : ∀ w, (sizeOf t).run P w = .ok s w) (hb : Blk w g l T) (hx : ov n f x = .pointer (some ⟨g, o, none⟩)) (hy : ov n f y = .agg c.toArray) (hc : c.length = s) (hv : c.all plainV = true) (ho : Nat.ble (o + c.length) l.length = true)
    {l' : List Value} (hl' : l.take o ++ c ++ l.drop (o + c.length) = l') (k : ∀ w', Kp g w w' → Blk w' g l' T → K (E n (upo f d undef)) w') :
    wpO P ops Q ⟨d, .store t x y, ty, pos, aft, none⟩ K (E n f) w := by
  obtain ⟨w', h1, h2, h3⟩ := run_storeCells (P := P) (o := o) c w l 0 hb hv (by simpa using Nat.le_of_ble_eq_true ho)
  have hst : (storeVar t ⟨g, o, none⟩ (.agg c.toArray)).run P w = .ok () w' := by
    simp only [storeVar, Value.cells]
    simp [hs, hc, h1]
  subst hl'
  refine D_skip ?_ (k w' h2 (by simpa using h3))
  simp only [execOp, hx, hy, Instr.storeAt, Instr.sureAddr]
  simp [hst]
theorem cgD {c : Bool} {u : Value} {b want : Bool} {v : Value} (h : b = want) : cond ((b == want) && c) v u = cond c v u := by subst h; simp
theorem cgD2 {g c : Bool} {u : Value} {b want : Bool} {v : Value} (hg : g = true) (h : b = want) : cond ((g && (b == want)) && c) v u = cond c v u := by subst hg h; simp
theorem S_nil (h : Q .normal (E n f) w) : wpList P ops Q [] (E n f) w := h
end
/-! ### a drawn region with operations that change the world: those that only read are taken first, the others come up one behind the other -/
section
variable {P : Program} {ops : Array Oper} {Q : Exit → Act → World → Prop} {n : Nat} {f : Nat → Value} {w w0 : World} {fuel : Nat} {listed : Array Bool}
def PQ (Q : Exit → Act → World → Prop) : Prop := ∀ c d v a w, Q (.panic c) (Act.put a d v) w → Q (.panic c) a w
theorem pq_body {fn : Func} {R : Ending → World → Prop} : PQ (bodyPost P fn R) := by
  intro c d v a w h
  cases d <;> exact h
theorem pq_then {next : Act → World → Prop} (h : PQ Q) : PQ (Exit.then next Q) := fun c d v a w hh => h c d v a w hh
theorem pq_block {id : Nat} (h : PQ Q) : PQ (Exit.inBlock id Q) := fun c d v a w hh => h c d v a w hh
def H (P : Program) (ops : Array Oper) (Q : Exit → Act → World → Prop) (S : World → Prop) (fuel : Nat) (listed : Array Bool) (a : Act) (w : World) : Prop := wpAnyH P .any ops Q S fuel listed a w
theorem W_held {id : Nat} {l : List Oper} (S : World → Prop) (hm : P.follows .mixedOrders = true) (h : ∀ w', Ext w w' → H P l.toArray Q S l.length (Array.replicate l.length false) (E n f) w') : (Code.region id l.toArray true).wp P Q (E n f) w := by
  refine wp_region_held (S := S) hm ?_
  have := h _ (Ext.drew w)
  simpa [H] using this
variable {S : World → Prop}
theorem H_take {i : Nat} {o : Oper} {v : Value} {listed' : Array Bool} (hi : ops[i]? = some o) (hs : Region.noSelect ops = true) (hf : Region.free .any ops listed i = true) (hr : (Region.ready .any ops listed).contains i = true) (hl : listed.setIfInBounds i true = listed')
    (hQ : PQ Q) (hS : S w) (hg : o.guard = none) (h : ∀ w, S w → (execOp (ov n f) o).run P w = .ok (.value v) w) (k : H P ops Q S fuel listed' (E n (upo f o.dst v)) w) : H P ops Q S (fuel + 1) listed (E n f) w := by
  subst hl
  refine wpAnyH_take hi hs hf hr (fun c a w h => hQ c _ _ a w h) (.inl ⟨by simp [Region.wanted, hg], fun w hw => by rw [E_eval]; exact h w hw⟩) hS ?_
  rw [E_put]
  exact k
theorem H_op {i : Nat} {o : Oper} {listed' : Array Bool} (hr : Region.ready .any ops listed = [i]) (hi : ops[i]? = some o) (hl : listed.setIfInBounds i true = listed')
    (h : wpO P ops Q o (fun a' w' => S w' ∧ H P ops Q S fuel listed' a' w') (E n f) w) : H P ops Q S (fuel + 1) listed (E n f) w := by
  subst hl
  refine wpAnyH_all hr (by simp) ?_
  intro j hj
  simp only [List.mem_singleton] at hj
  subst hj
  unfold wpOp
  simp only [hi]
  exact h
theorem H_op2 {i i2 : Nat} {o o2 : Oper} {listed1 listed2 : Array Bool} (hr : Region.ready .any ops listed = [i, i2]) (hi : ops[i]? = some o) (hi2 : ops[i2]? = some o2) (hl : listed.setIfInBounds i true = listed1) (hl2 : listed.setIfInBounds i2 true = listed2)
    (h : wpO P ops Q o (fun a' w' => S w' ∧ H P ops Q S fuel listed1 a' w') (E n f) w) (h2 : wpO P ops Q o2 (fun a' w' => S w' ∧ H P ops Q S fuel listed2 a' w') (E n f) w) : H P ops Q S (fuel + 1) listed (E n f) w := by
  subst hl hl2
  refine wpAnyH_all hr (by simp) ?_
  intro j hj
  simp only [List.mem_cons, List.not_mem_nil, or_false] at hj
  rcases hj with rfl | rfl
  · unfold wpOp; simp only [hi]; exact h
  · unfold wpOp; simp only [hi2]; exact h2
theorem H_done (hr : Region.ready .any ops listed = []) (h : Q .normal (E n f) w) : H P ops Q S fuel listed (E n f) w := wpAnyH_done hr h fuel
end
/-! ### a drawn region whose first operations only read, and whose last ones come up in one order alone -/
section
variable {P : Program} {ops : Array Oper} {rest : List Oper} {n : Nat} {f : Nat → Value} {w : World} {d : Option Tmp} {op : Op} {ty : TypeId} {pos : String} {aft : Array Edge} {Kt : Act → Prop} {v : Value}
theorem T_gw {c : Bool} {o : Oper} (hw : Region.wanted o (yielded ops (E n f).tmps) = c)
    (h : c = true → (execOp (ov n f) o).run P w = .ok (.value v) w) (k : wpStill P ops w Kt rest (E n (upo f o.dst (cond c v undef)))) :
    wpStill P ops w Kt (o :: rest) (E n f) := by
  simp only [wpStill, hw]
  cases c with
  | false => simp only [Bool.false_eq_true, if_false, E_put]; exact k
  | true =>
    simp only [if_true]
    simp only [Oper.still, E_eval, h rfl, Oper.stillUpon_value, E_put]
    exact k
theorem T_v (h : (execOp (ov n f) ⟨d, op, ty, pos, aft, none⟩).run P w = .ok (.value v) w) (k : wpStill P ops w Kt rest (E n (upo f d v))) : wpStill P ops w Kt (⟨d, op, ty, pos, aft, none⟩ :: rest) (E n f) :=
  T_gw (c := true) rfl (fun _ => h) k
theorem T_g1 {j dj : Nat} {want b : Bool} (hj : (ops[j]?).bind (·.dst) = some dj) (hb : ov n f (.tmp dj) = .bool b)
    (h : b = want → (execOp (ov n f) ⟨d, op, ty, pos, aft, some (j, want)⟩).run P w = .ok (.value v) w) (k : wpStill P ops w Kt rest (E n (upo f d (cond (b == want) v undef)))) :
    wpStill P ops w Kt (⟨d, op, ty, pos, aft, some (j, want)⟩ :: rest) (E n f) :=
  T_gw (wanted_b rfl hj hb) (fun hc => h (by simpa using hc)) k
theorem T_nil (h : Kt (E n f)) : wpStill P ops w Kt [] (E n f) := h
end
/-! ### code -/
section
variable {P : Program} {Q : Exit → Act → World → Prop} {n : Nat} {f : Nat → Value} {w : World} {a : Act} {next : Act → World → Prop}
theorem W_region {id : Nat} {l : List Oper} (h : wpList P l.toArray Q l (E n f) w) : (Code.region id l.toArray false).wp P Q (E n f) w := wp_region_lit h
theorem W_draw {id : Nat} {l : List Oper} (hm : P.follows .mixedOrders = true) (hB : Region.lexB .any l.toArray = true)
    (h : wpQuiet P l.toArray (Ext w) (fun a' => ∀ w', Ext w w' → Q .normal a' w') l (E n f)) : (Code.region id l.toArray true).wp P Q (E n f) w :=
  wp_region_quiet (C := Ext w) hm hB (Ext.drew w) (by simpa using h)
theorem W_if {c : Operand} {x y : Code} {b : Bool} (hc : ov n f c = .bool b) (ht : b = true → x.wp P Q (E n f) w) (hf : b = false → y.wp P Q (E n f) w) : (Code.cond c x y).wp P Q (E n f) w :=
  wp_cond_split (by rw [E_eval]; exact hc) ht hf
theorem W_ift {c : Operand} {x y : Code} (hc : ov n f c = .bool true) (ht : x.wp P Q (E n f) w) : (Code.cond c x y).wp P Q (E n f) w :=
  wp_cond_true (by rw [E_eval]; exact hc) ht
theorem W_iff {c : Operand} {x y : Code} (hc : ov n f c = .bool false) (ht : y.wp P Q (E n f) w) : (Code.cond c x y).wp P Q (E n f) w :=
  wp_cond_false (by rw [E_eval]; exact hc) ht
theorem W_tail {id : Nat} {l : List Oper} (k : Nat) (hm : P.follows .mixedOrders = true) (hB : Region.lexTailB .any l.toArray k = true)
    (h : ∀ w', Ext w w' → wpStill P l.toArray w' (fun a' => wpList P l.toArray Q (l.drop k) a' w') (l.take k) (E n f)) : (Code.region id l.toArray true).wp P Q (E n f) w :=
  wp_region_still_tail k hm hB (h _ (Ext.drew w))
theorem W_loop {c : Code} (I : Nat → (Nat → Value) → World → Prop) {m : Nat} (h0 : I m f w)
    (h : ∀ m f w, I m f w → c.wp P (Exit.then (fun a' w' => ∃ m' f', m' < m ∧ a' = E n f' ∧ I m' f' w') Q) (E n f) w) : (Code.loop c).wp P Q (E n f) w := by
  have key : ∀ k m f w, I m f w → m < k → Code.rounds P c Q k (E n f) w := by
    intro k
    induction k with
    | zero => intro m f w _ hm; omega
    | succ k ih =>
      intro m f w hI hm
      refine wp_mono (h m f w hI) ?_
      intro e a' w' he
      cases e with
      | normal =>
        obtain ⟨m', f', hlt, rfl, hI'⟩ := he
        exact ih m' f' w' hI' (by omega)
      | _ => exact he
  exact wp_loop_rounds (m + 1) (key (m + 1) m f w h0 (by omega))
theorem T_tn (h : next a w) : Exit.then next Q .normal a w := h
theorem T_tr (h : Q .ret a w) : Exit.then next Q .ret a w := h
theorem T_te {id : Nat} (h : Q (.exit id) a w) : Exit.then next Q (.exit id) a w := h
theorem T_bn {id : Nat} (h : Q .normal a w) : Exit.inBlock id Q .normal a w := h
theorem T_br {id : Nat} (h : Q .ret a w) : Exit.inBlock id Q .ret a w := h
theorem T_be {id : Nat} (h : Q .normal a w) : Exit.inBlock id Q (.exit id) a w := by simpa [Exit.inBlock] using h
theorem T_bx {id i : Nat} (hi : Nat.beq i id = false) (h : Q (.exit i) a w) : Exit.inBlock id Q (.exit i) a w := by
  have : i ≠ id := fun e => by subst e; simp at hi
  simpa [Exit.inBlock, this] using h
theorem T_bg {id l : Nat} (h : Q (.goto l) a w) : Exit.inBlock id Q (.goto l) a w := h
theorem W_unroll {c : Code} (m : Nat) (h : Code.rounds P c Q (m + 1) a w) : (Code.loop c).wp P Q a w := wp_loop_rounds (m + 1) h
theorem W_round {c : Code} {m : Nat} (h : c.wp P (Exit.then (Code.rounds P c Q m) Q) a w) : Code.rounds P c Q (m + 1) a w := h
end
end Go.Proofs.Yteeopgpgbdhmhaa
