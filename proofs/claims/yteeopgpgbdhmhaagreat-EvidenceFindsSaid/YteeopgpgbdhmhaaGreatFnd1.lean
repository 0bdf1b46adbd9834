/- What the law needs, part 1. No condition. -/
import Derived.WalkKit
import Derived.Deep.Quiet
import Derived.OrdersHeld
import Derived.StillTail
import Derived.LoopN
import Derived.Laws.AppendOwnNone
import Derived.Test.YteeopgpgbdhmhaaGreatProg
import Derived.ProofKit
import Derived.OpenShut
import Derived.Test.YteeopgpgbdhmhaaGreatRows
import Derived.JoinedOf
namespace Go.Proofs.YteeopgpgbdhmhaaGreat
open Go.RowKit
def up (f : Nat → Value) (d : Nat) (v : Value) (i : Nat) : Value := cond (Nat.beq i d) v (f i)
def upo (f : Nat → Value) (d : Option Tmp) (v : Value) : Nat → Value := match d with | some d => up f d v | none => f
def E (n : Nat) (f : Nat → Value) : Act := { tmps := Array.ofFn (n := n) fun i => f i.val, defers := [] }
def ov (n : Nat) (f : Nat → Value) : Operand → Value
  | .tmp t => cond (Nat.blt t n) (f t) undef
  | .const v => v
  | .global g => .pointer (some ⟨g, 0, none⟩)
  | .func f => .func (.func f) #[] #[]
theorem blt_true {t n : Nat} (h : t < n) : Nat.blt t n = true := Nat.ble_eq_true_of_le h
theorem blt_false {t n : Nat} (h : ¬ t < n) : Nat.blt t n = false := by
  cases hb : Nat.blt t n with
  | false => rfl
  | true => exact absurd (Nat.le_of_ble_eq_true hb) h
theorem E_getD (n : Nat) (f : Nat → Value) (t : Nat) : (E n f).tmps.getD t undef = cond (Nat.blt t n) (f t) undef := by
  unfold E
  by_cases h : t < n
  · rw [blt_true h]; simp [h]
  · rw [blt_false h]; simp [h]
theorem E_eval (n : Nat) (f : Nat → Value) : (E n f).eval = ov n f := by
  funext x
  cases x <;> simp only [Act.eval, ov]
  exact E_getD n f _
theorem E_put (n : Nat) (f : Nat → Value) (d : Option Tmp) (v : Value) : (E n f).put d v = E n (upo f d v) := by
  cases d with
  | none => rfl
  | some d =>
    simp only [Act.put, E, upo]
    congr 1
    apply Array.ext
    · simp
    · intro i h1 h2
      have h3 : i < n := by simpa using h2
      rw [Array.getElem_setIfInBounds (by simpa using h3)]
      by_cases hd : d = i
      · subst hd; simp [up]
      · have : Nat.beq i d = false := by
          cases hb : Nat.beq i d with
          | false => rfl
          | true => exact absurd (Nat.eq_of_beq_eq_true hb).symm hd
        simp [hd, up, this]
def Ext (w w' : World) : Prop := Below w.heap.size w w'
theorem Ext.refl (w : World) : Ext w w := Below.refl _ _
theorem Ext.trans {a b c : World} (h : Ext a b) (k : Ext b c) : Ext a c := Below.trans h (Below.mono k h.size)
theorem Ext.alloc (w : World) (o : Obj) : Ext w (w.alloc o) := (Below.refl _ _).alloc (Nat.le_refl _) _
theorem Ext.drew (w : World) : Ext w { w with drawn := w.drawn + 1 } := ⟨rfl, rfl, rfl, Nat.le_refl _, fun _ _ => rfl⟩
theorem Ext.size {w w' : World} (h : Ext w w') : w.heap.size ≤ w'.heap.size := Below.size h
def Blk (w : World) (g : Nat) (l : List Value) (T : TypeId) : Prop := w.heap[g]? = some (.cells l.toArray T (0, 0))
theorem Blk.lt {w : World} {g : Nat} {l : List Value} {T : TypeId} (h : Blk w g l T) : g < w.heap.size := (Array.getElem?_eq_some_iff.1 h).1
theorem Blk.ext {w w' : World} {g : Nat} {l : List Value} {T : TypeId} (h : Blk w g l T) (e : Ext w w') : Blk w' g l T := (Below.block e g h.lt).trans h
theorem Blk.new (w : World) (l : List Value) (T : TypeId) : Blk (w.alloc (.cells l.toArray T)) w.heap.size l T := by
  simpa [Blk] using heap_alloc_new w (.cells l.toArray T)
theorem Blk.cell {w : World} {g : Nat} {l : List Value} {T : TypeId} (h : Blk w g l T) (o : Nat) : w.cell? ⟨g, o, none⟩ = l[o]? := by
  simp only [World.cell?, show w.heap[g]? = _ from h]; simp
structure Kp (g : Nat) (w w' : World) : Prop where
  os : w'.os = w.os
  tape : w'.tape = w.tape
  output : w'.output = w.output
  size : w'.heap.size = w.heap.size
  block : ∀ k, k ≠ g → w'.heap[k]? = w.heap[k]?
theorem Kp.refl (g : Nat) (w : World) : Kp g w w := ⟨rfl, rfl, rfl, rfl, fun _ _ => rfl⟩
theorem Kp.trans {g : Nat} {a b c : World} (h : Kp g a b) (k : Kp g b c) : Kp g a c :=
  ⟨k.os.trans h.os, k.tape.trans h.tape, k.output.trans h.output, k.size.trans h.size, fun i hi => (k.block i hi).trans (h.block i hi)⟩
theorem Ext.kp {a w w' : World} {g : Nat} (h : Ext a w) (k : Kp g w w') (hg : a.heap.size ≤ g) : Ext a w' :=
  ⟨k.os.trans h.os, k.tape.trans h.tape, k.output.trans h.output, by rw [k.size]; exact h.size, fun i hi => (k.block i (by omega)).trans (Below.block h i hi)⟩
theorem Blk.kp {w w' : World} {g g' : Nat} {l : List Value} {T : TypeId} (h : Blk w g' l T) (k : Kp g w w') (hn : g' ≠ g) : Blk w' g' l T := (k.block g' hn).trans h
theorem Blk.ne {w : World} {g g' : Nat} {l : List Value} {T : TypeId} (h : Blk w g l T) (hg : w.heap.size ≤ g') : g ≠ g' := Nat.ne_of_lt (Nat.lt_of_lt_of_le h.lt hg)
structure Chg (g : Nat) (w w' : World) : Prop where
  os : w'.os = w.os
  tape : w'.tape = w.tape
  output : w'.output = w.output
  size : w.heap.size ≤ w'.heap.size
  block : ∀ k, k < w.heap.size → k ≠ g → w'.heap[k]? = w.heap[k]?
theorem Chg.refl (g : Nat) (w : World) : Chg g w w := ⟨rfl, rfl, rfl, Nat.le_refl _, fun _ _ _ => rfl⟩
theorem Chg.trans {g : Nat} {a b c : World} (h : Chg g a b) (e : Ext b c) : Chg g a c :=
  ⟨(Below.os e).trans h.os, (Below.tape e).trans h.tape, (Below.output e).trans h.output, Nat.le_trans h.size e.size, fun k hk hg => (Below.block e k (Nat.lt_of_lt_of_le hk h.size)).trans (h.block k hk hg)⟩
theorem Chg.kp {g : Nat} {a b c : World} (h : Chg g a b) (k : Kp g b c) (_ : True) : Chg g a c :=
  ⟨k.os.trans h.os, k.tape.trans h.tape, k.output.trans h.output, by rw [k.size]; exact h.size, fun i hi hg => (k.block i hg).trans (h.block i hi hg)⟩
theorem Ext.chg {a w w' : World} {g : Nat} (h : Ext a w) (k : Chg g w w') (hg : a.heap.size ≤ g) : Ext a w' :=
  ⟨k.os.trans (Below.os h), k.tape.trans (Below.tape h), k.output.trans (Below.output h), Nat.le_trans (Below.size h) k.size, fun i hi => (k.block i (Nat.lt_of_lt_of_le hi (Below.size h)) (by omega)).trans (Below.block h i hi)⟩
theorem Blk.chg {w w' : World} {g g' : Nat} {l : List Value} {T : TypeId} (h : Blk w g' l T) (k : Chg g w w') (hn : g' ≠ g) : Blk w' g' l T := (k.block g' h.lt hn).trans h
def plainV : Value → Bool
  | .agg _ => false
  | .tuple _ => false
  | _ => true
theorem run_store1 {P : Program} {w : World} {g o : Nat} {l : List Value} {T : TypeId} {v : Value} (hb : Blk w g l T) (hv : plainV v = true) (ho : o < l.length) :
    ∃ w', (store ⟨g, o, none⟩ v).run P w = .ok () w' ∧ Kp g w w' ∧ Blk w' g (l.set o v) T := by
  have hc : w.cell? ⟨g, o, none⟩ = some l[o] := by rw [hb.cell]; exact List.getElem?_eq_getElem ho
  have hf : w.frozen? ⟨g, o, none⟩ = false := by simp only [World.frozen?, show w.heap[g]? = _ from hb]; simp
  refine ⟨w.setCell ⟨g, o, none⟩ v, ?_, ⟨rfl, rfl, rfl, by simp [World.setCell], fun k hk => by simp only [World.setCell, Array.getElem?_modify]; rw [if_neg (fun e => hk e.symm)]⟩, ?_⟩
  · cases v <;> simp_all [store, Sem.run, plainV]
  · have hb' : w.heap[g]? = some (.cells l.toArray T (0, 0)) := hb
    unfold Blk World.setCell
    simp only [Array.getElem?_modify, if_true, hb', Option.map_some]
    simp
theorem run_storeCells {P : Program} {g o : Nat} {T : TypeId} : ∀ (c : List Value) (w : World) (l : List Value) (i : Nat), Blk w g l T → c.all plainV = true → o + i + c.length ≤ l.length →
    ∃ w', (storeCells ⟨g, o, none⟩ c i).run P w = .ok () w' ∧ Kp g w w' ∧ Blk w' g (l.take (o + i) ++ c ++ l.drop (o + i + c.length)) T := by
  intro c
  induction c with
  | nil => intro w l i hb _ _; exact ⟨w, by simp [storeCells], Kp.refl _ _, by simpa using hb⟩
  | cons v c ih =>
    intro w l i hb hp hl
    simp only [List.all_cons, Bool.and_eq_true] at hp
    simp only [List.length_cons] at hl
    obtain ⟨w1, h1, k1, b1⟩ := run_store1 (P := P) hb hp.1 (show o + i < l.length by omega)
    obtain ⟨w2, h2, k2, b2⟩ := ih w1 _ (i + 1) b1 hp.2 (by simp; omega)
    refine ⟨w2, ?_, k1.trans k2, ?_⟩
    · have ha : (⟨g, o, none⟩ : Addr).add i = ⟨g, o + i, none⟩ := by unfold Addr.add; split <;> simp_all
      simp only [storeCells, Sem.run_bind, ha, h1, Result.andThen_ok, h2]
    · have e : (l.set (o + i) v).take (o + (i + 1)) ++ c ++ (l.set (o + i) v).drop (o + (i + 1) + c.length) = l.take (o + i) ++ v :: c ++ l.drop (o + i + (v :: c).length) := by
        have hlt : o + i < l.length := by omega
        rw [List.drop_set_of_lt (by omega), List.take_set, ← Nat.add_assoc, List.take_succ_eq_append_getElem hlt, List.set_append_right _ _ (by simp; omega)]
        simp [Nat.min_eq_left (Nat.le_of_lt hlt), Nat.add_assoc, Nat.add_comm 1]
      rw [e] at b2
      exact b2
def Ret (w : World) (v : Value) : Ending → World → Prop := fun e w' => e = .returned v ∧ Ext w w'
def RetM (w : World) (g : Nat) (l : List Value) (T : TypeId) : Ending → World → Prop := fun e w' => e = .returned (.tuple #[]) ∧ Chg g w w' ∧ Blk w' g l T
theorem enter {P : Program} {F : FuncId} {fn : Func} {c : Code} {n : Nat} {l : List Value} {w : World} {R : Ending → World → Prop} (hf : P.funcs[F]? = some fn) (hn : fn.ntmps = n) (hb : fn.body = some c) (hl : Nat.ble l.length n = true)
    (h : c.wp P (bodyPost P fn R) (E n (fun i => l.getD i undef)) w) : Calls P F l.toArray w R := by
  refine calls_of_wp hf hb ?_
  have : E n (fun i => l.getD i undef) = { tmps := l.toArray ++ Array.replicate (fn.ntmps - l.toArray.size) undef, defers := [] } := by
    unfold E
    congr 1
    have hl' : l.length ≤ n := by simpa using hl
    apply Array.ext
    · simp [hn]; omega
    · intro i h1 h2
      simp only [Array.size_ofFn] at h1
      simp only [Array.getElem_ofFn]
      by_cases hi : i < l.length
      · rw [Array.getElem_append_left (by simpa using hi)]; simp [List.getD, hi]
      · rw [Array.getElem_append_right (by simpa using hi)]; simp [List.getD, hi]
  rw [this] at h
  exact h
theorem ret1 {P : Program} {fn : Func} {R : Ending → World → Prop} {n t : Nat} {f : Nat → Value} {w : World} {v : Value} (hr : fn.results = #[.tmp t]) (hv : ov n f (.tmp t) = v) (h : R (.returned v) w) : bodyPost P fn R .ret (E n f) w :=
  bodyPost_ret (results_tmp hr _ _ _) rfl (by rw [E_getD]; subst hv; exact h)
theorem ret2 {P : Program} {fn : Func} {R : Ending → World → Prop} {n t u : Nat} {f : Nat → Value} {w : World} {v v2 : Value} (hr : fn.results = #[.tmp t, .tmp u]) (hv : ov n f (.tmp t) = v) (hv2 : ov n f (.tmp u) = v2) (h : R (.returned (.tuple #[v, v2])) w) : bodyPost P fn R .ret (E n f) w :=
  bodyPost_ret (results_tmp2 hr _ _ _) rfl (by rw [E_getD, E_getD]; subst hv hv2; exact h)
section
variable {P : Program} {ops : Array Oper} {Q : Exit → Act → World → Prop} {K : Act → World → Prop} {rest : List Oper} {n : Nat} {f : Nat → Value} {w w' : World} {d : Option Tmp} {op : Op} {ty : TypeId} {pos : String} {aft : Array Edge}
def wpO (P : Program) (ops : Array Oper) (Q : Exit → Act → World → Prop) (o : Oper) (K : Act → World → Prop) (a : Act) (w : World) : Prop :=
  if Region.wanted o (yielded ops a.tmps) then o.wp P a w K Q ∨ (o.asks P a w ∧ LetsOut Q) else K (a.put o.dst undef) w
theorem L {o : Oper} {a : Act} (h : wpO P ops Q o (wpList P ops Q rest) a w) : wpList P ops Q (o :: rest) a w := h
theorem D_v {v : Value} (h : (execOp (ov n f) ⟨d, op, ty, pos, aft, none⟩).run P w = .ok (.value v) w') (k : K (E n (upo f d v)) w') :
    wpO P ops Q ⟨d, op, ty, pos, aft, none⟩ K (E n f) w := by
  simp only [wpO, Region.wanted, if_true]
  refine .inl ?_
  simp only [Oper.wp, E_eval, h, Oper.upon, E_put]
  exact k
theorem D_skip (h : (execOp (ov n f) ⟨d, op, ty, pos, aft, none⟩).run P w = .ok .skip w') (k : K (E n (upo f d undef)) w') :
    wpO P ops Q ⟨d, op, ty, pos, aft, none⟩ K (E n f) w := by
  simp only [wpO, Region.wanted, if_true]
  refine .inl ?_
  simp only [Oper.wp, E_eval, h, Oper.upon, E_put]
  exact k
theorem D_call {F : FuncId} {args : Array Value} {v : Value} (h : (execOp (ov n f) ⟨d, op, ty, pos, aft, none⟩).run P w = .ok (.enter F args) w) (hc : Calls P F args w (Ret w v))
    (k : ∀ w', Ext w w' → K (E n (upo f d v)) w') :
    wpO P ops Q ⟨d, op, ty, pos, aft, none⟩ K (E n f) w := by
  simp only [wpO, Region.wanted, if_true]
  refine .inl ?_
  simp only [Oper.wp, E_eval, h, Oper.upon]
  refine hc.mono ?_
  rintro e w1 ⟨rfl, h1⟩
  simp only [E_put]
  exact k w1 h1
theorem yielded_gv {j dj : Nat} {b g : Bool} (hj : (ops[j]?).bind (·.dst) = some dj) (hb : ov n f (.tmp dj) = cond g (.bool b) undef) :
    yielded ops (E n f).tmps j = cond g (some b) none := by
  simp only [ov] at hb
  simp only [yielded, hj, Option.bind_some]
  by_cases h : dj < n
  · rw [blt_true h] at hb
    have : (E n f).tmps[dj]? = some (cond g (.bool b) undef) := by
      rw [← hb]; simp [E, h]
    rw [this]
    cases g <;> rfl
  · rw [blt_false h] at hb
    have : (E n f).tmps[dj]? = none := by simp [E]; omega
    rw [this]
    cases g with
    | false => rfl
    | true => exact absurd hb (by simp [undef])
theorem wanted_gv {j dj : Nat} {want : Bool} {b g : Bool} {o : Oper} (ho : o.guard = some (j, want)) (hj : (ops[j]?).bind (·.dst) = some dj) (hb : ov n f (.tmp dj) = cond g (.bool b) undef) :
    Region.wanted o (yielded ops (E n f).tmps) = (g && (b == want)) := by
  simp only [Region.wanted, ho, yielded_gv hj hb]
  cases g <;> simp
theorem wanted_b {j dj : Nat} {want : Bool} {b : Bool} {o : Oper} (ho : o.guard = some (j, want)) (hj : (ops[j]?).bind (·.dst) = some dj) (hb : ov n f (.tmp dj) = .bool b) :
    Region.wanted o (yielded ops (E n f).tmps) = (b == want) := by
  have := wanted_gv (g := true) ho hj hb
  simpa using this
theorem D_gw {c : Bool} {o : Oper} {v : Value} (hw : Region.wanted o (yielded ops (E n f).tmps) = c)
    (h : c = true → (execOp (ov n f) o).run P w = .ok (.value v) w) (k : K (E n (upo f o.dst (cond c v undef))) w) :
    wpO P ops Q o K (E n f) w := by
  simp only [wpO, hw]
  cases c with
  | false => simp only [Bool.false_eq_true, if_false, E_put]; exact k
  | true =>
    simp only [if_true]
    refine .inl ?_
    simp only [Oper.wp, E_eval, h rfl, Oper.upon, E_put]
    exact k
theorem D_gwcall {c : Bool} {o : Oper} {F : FuncId} {args : Array Value} {v : Value} (hw : Region.wanted o (yielded ops (E n f).tmps) = c)
    (h : c = true → (execOp (ov n f) o).run P w = .ok (.enter F args) w) (hc : c = true → Calls P F args w (Ret w v))
    (k : ∀ w', Ext w w' → K (E n (upo f o.dst (cond c v undef))) w') :
    wpO P ops Q o K (E n f) w := by
  simp only [wpO, hw]
  cases c with
  | false => simp only [Bool.false_eq_true, if_false, E_put]; exact k w (Ext.refl w)
  | true =>
    simp only [if_true]
    refine .inl ?_
    simp only [Oper.wp, E_eval, h rfl, Oper.upon]
    refine (hc rfl).mono ?_
    rintro e w1 ⟨rfl, h1⟩
    simp only [E_put]
    exact k w1 h1
section
variable {j dj : Nat} {want b g : Bool} {v : Value}
theorem D_g1 (hj : (ops[j]?).bind (·.dst) = some dj) (hb : ov n f (.tmp dj) = .bool b)
    (h : b = want → (execOp (ov n f) ⟨d, op, ty, pos, aft, some (j, want)⟩).run P w = .ok (.value v) w) (k : K (E n (upo f d (cond (b == want) v undef))) w) :
    wpO P ops Q ⟨d, op, ty, pos, aft, some (j, want)⟩ K (E n f) w :=
  D_gw (wanted_b rfl hj hb) (fun hc => h (by simpa using hc)) k
theorem D_g2 (hj : (ops[j]?).bind (·.dst) = some dj) (hb : ov n f (.tmp dj) = cond g (.bool b) undef)
    (h : g = true → b = want → (execOp (ov n f) ⟨d, op, ty, pos, aft, some (j, want)⟩).run P w = .ok (.value v) w) (k : K (E n (upo f d (cond (g && (b == want)) v undef))) w) :
    wpO P ops Q ⟨d, op, ty, pos, aft, some (j, want)⟩ K (E n f) w :=
  D_gw (wanted_gv rfl hj hb) (fun hc => by simp only [Bool.and_eq_true, beq_iff_eq] at hc; exact h hc.1 hc.2) k
theorem D_gc1 {F : FuncId} {args : Array Value} (hj : (ops[j]?).bind (·.dst) = some dj) (hb : ov n f (.tmp dj) = .bool b)
    (h : b = want → (execOp (ov n f) ⟨d, op, ty, pos, aft, some (j, want)⟩).run P w = .ok (.enter F args) w) (hc : b = want → Calls P F args w (Ret w v))
    (k : ∀ w', Ext w w' → K (E n (upo f d (cond (b == want) v undef))) w') :
    wpO P ops Q ⟨d, op, ty, pos, aft, some (j, want)⟩ K (E n f) w :=
  D_gwcall (wanted_b rfl hj hb) (fun hc => h (by simpa using hc)) (fun h => hc (by simpa using h)) k
variable {Kq : Act → Prop} {w0 : World}
theorem Q_gw {c : Bool} {o : Oper} (hw : Region.wanted o (yielded ops (E n f).tmps) = c)
    (h : c = true → ∀ w, Ext w0 w → (execOp (ov n f) o).run P w = .ok (.value v) w) (k : wpQuiet P ops (Ext w0) Kq rest (E n (upo f o.dst (cond c v undef)))) :
    wpQuiet P ops (Ext w0) Kq (o :: rest) (E n f) := by
  simp only [wpQuiet, hw]
  cases c with
  | false => simp only [Bool.false_eq_true, if_false, E_put]; exact k
  | true =>
    simp only [if_true]
    refine ⟨v, fun w hw' => ?_, by rw [E_put]; exact k⟩
    simp only [Oper.quietAt, E_eval, h rfl w hw', Oper.quietUpon, and_self]
theorem Q_gwcall {c : Bool} {o : Oper} {F : FuncId} {args : Array Value} (hw : Region.wanted o (yielded ops (E n f).tmps) = c)
    (h : c = true → ∀ w, Ext w0 w → (execOp (ov n f) o).run P w = .ok (.enter F args) w) (hc : c = true → ∀ w, Ext w0 w → Calls P F args w (Ret w v)) (k : wpQuiet P ops (Ext w0) Kq rest (E n (upo f o.dst (cond c v undef)))) :
    wpQuiet P ops (Ext w0) Kq (o :: rest) (E n f) := by
  simp only [wpQuiet, hw]
  cases c with
  | false => simp only [Bool.false_eq_true, if_false, E_put]; exact k
  | true =>
    simp only [if_true]
    refine ⟨v, fun w hw' => ?_, by rw [E_put]; exact k⟩
    simp only [Oper.quietAt, E_eval, h rfl w hw', Oper.quietUpon, true_and]
    exact (hc rfl w hw').mono fun e w' he => ⟨he.1, hw'.trans he.2⟩
theorem Q_v (h : ∀ w, Ext w0 w → (execOp (ov n f) ⟨d, op, ty, pos, aft, none⟩).run P w = .ok (.value v) w) (k : wpQuiet P ops (Ext w0) Kq rest (E n (upo f d v))) :
    wpQuiet P ops (Ext w0) Kq (⟨d, op, ty, pos, aft, none⟩ :: rest) (E n f) :=
  Q_gw (c := true) rfl (fun _ => h) k
theorem Q_call {F : FuncId} {args : Array Value} (h : ∀ w, Ext w0 w → (execOp (ov n f) ⟨d, op, ty, pos, aft, none⟩).run P w = .ok (.enter F args) w) (hc : ∀ w, Ext w0 w → Calls P F args w (Ret w v)) (k : wpQuiet P ops (Ext w0) Kq rest (E n (upo f d v))) :
    wpQuiet P ops (Ext w0) Kq (⟨d, op, ty, pos, aft, none⟩ :: rest) (E n f) :=
  Q_gwcall (c := true) rfl (fun _ => h) (fun _ => hc) k
theorem Q_g1 (hj : (ops[j]?).bind (·.dst) = some dj) (hb : ov n f (.tmp dj) = .bool b)
    (h : b = want → ∀ w, Ext w0 w → (execOp (ov n f) ⟨d, op, ty, pos, aft, some (j, want)⟩).run P w = .ok (.value v) w) (k : wpQuiet P ops (Ext w0) Kq rest (E n (upo f d (cond (b == want) v undef)))) :
    wpQuiet P ops (Ext w0) Kq (⟨d, op, ty, pos, aft, some (j, want)⟩ :: rest) (E n f) :=
  Q_gw (wanted_b rfl hj hb) (fun hc => h (by simpa using hc)) k
theorem Q_g2 (hj : (ops[j]?).bind (·.dst) = some dj) (hb : ov n f (.tmp dj) = cond g (.bool b) undef)
    (h : g = true → b = want → ∀ w, Ext w0 w → (execOp (ov n f) ⟨d, op, ty, pos, aft, some (j, want)⟩).run P w = .ok (.value v) w) (k : wpQuiet P ops (Ext w0) Kq rest (E n (upo f d (cond (g && (b == want)) v undef)))) :
    wpQuiet P ops (Ext w0) Kq (⟨d, op, ty, pos, aft, some (j, want)⟩ :: rest) (E n f) :=
  Q_gw (wanted_gv rfl hj hb) (fun hc => by simp only [Bool.and_eq_true, beq_iff_eq] at hc; exact h hc.1 hc.2) k
theorem Q_gc1 {F : FuncId} {args : Array Value} (hj : (ops[j]?).bind (·.dst) = some dj) (hb : ov n f (.tmp dj) = .bool b)
    (h : b = want → ∀ w, Ext w0 w → (execOp (ov n f) ⟨d, op, ty, pos, aft, some (j, want)⟩).run P w = .ok (.enter F args) w) (hc : b = want → ∀ w, Ext w0 w → Calls P F args w (Ret w v))
    (k : wpQuiet P ops (Ext w0) Kq rest (E n (upo f d (cond (b == want) v undef)))) :
    wpQuiet P ops (Ext w0) Kq (⟨d, op, ty, pos, aft, some (j, want)⟩ :: rest) (E n f) :=
  Q_gwcall (wanted_b rfl hj hb) (fun hc => h (by simpa using hc)) (fun h => hc (by simpa using h)) k
theorem Q_gc2 {F : FuncId} {args : Array Value} (hj : (ops[j]?).bind (·.dst) = some dj) (hb : ov n f (.tmp dj) = cond g (.bool b) undef)
    (h : g = true → b = want → ∀ w, Ext w0 w → (execOp (ov n f) ⟨d, op, ty, pos, aft, some (j, want)⟩).run P w = .ok (.enter F args) w) (hc : g = true → b = want → ∀ w, Ext w0 w → Calls P F args w (Ret w v))
    (k : wpQuiet P ops (Ext w0) Kq rest (E n (upo f d (cond (g && (b == want)) v undef)))) :
    wpQuiet P ops (Ext w0) Kq (⟨d, op, ty, pos, aft, some (j, want)⟩ :: rest) (E n f) :=
  Q_gwcall (wanted_gv rfl hj hb) (fun hc => by simp only [Bool.and_eq_true, beq_iff_eq] at hc; exact h hc.1 hc.2) (fun h => by simp only [Bool.and_eq_true, beq_iff_eq] at h; exact hc h.1 h.2) k
theorem Q_nil (h : Kq (E n f)) : wpQuiet P ops (Ext w0) Kq [] (E n f) := h
theorem cgE {u : Value} (h : b = want) : cond (b == want) v u = v := by subst h; simp
theorem cgA {u : Value} (hg : g = true) (h : b = want) : cond (g && (b == want)) v u = v := by subst hg h; simp
end
theorem D_box {e : TypeId} {x : Operand} {c : List Value} (hx : ov n f x = .agg c.toArray)
    (k : ∀ g w', Ext w w' → w.heap.size ≤ g → Blk w' g c e → K (E n (upo f d (.pointer (some ⟨g, 0, none⟩)))) w') :
    wpO P ops Q ⟨d, .box e x, ty, pos, aft, none⟩ K (E n f) w :=
  D_v (v := .pointer (some ⟨w.heap.size, 0, none⟩)) (w' := w.alloc (.cells c.toArray e)) (by simp [go_sem, hx]) (k _ _ (Ext.alloc _ _) (Nat.le_refl _) (Blk.new _ _ _))
theorem D_alloc {e : TypeId} {z : Value} {c : List Value} (hz : ∀ w, (zeroValue e).run P w = .ok z w) (hc : z.cells = c.toArray)
    (k : ∀ g w', Ext w w' → w.heap.size ≤ g → Blk w' g c e → K (E n (upo f d (.pointer (some ⟨g, 0, none⟩)))) w') :
    wpO P ops Q ⟨d, .alloc e, ty, pos, aft, none⟩ K (E n f) w :=
  D_v (v := .pointer (some ⟨w.heap.size, 0, none⟩)) (w' := w.alloc (.cells c.toArray e)) (by unfold Value.cells at hc; simp [go_sem, hz, hc]) (k _ _ (Ext.alloc _ _) (Nat.le_refl _) (Blk.new _ _ _))
theorem D_store1 {t : TypeId} {x y : Operand} {g o : Nat} {l : List Value} {T : TypeId} {v : Value} (hs : ∀ w, (sizeOf t).run P w = .ok 1 w) (hb : Blk w g l T) (hx : ov n f x = .pointer (some ⟨g, o, none⟩)) (hy : ov n f y = v) (hv : plainV v = true) (ho : Nat.blt o l.length = true)
    (k : ∀ w', Kp g w w' → Blk w' g (l.set o v) T → K (E n (upo f d undef)) w') :
    wpO P ops Q ⟨d, .store t x y, ty, pos, aft, none⟩ K (E n f) w := by
  obtain ⟨w', h1, h2, h3⟩ := run_store1 (P := P) hb hv (Nat.le_of_ble_eq_true ho)
  have hc : v.cells = #[v] := by cases v <;> simp_all [Value.cells, plainV]
  have hst : (storeVar t ⟨g, o, none⟩ v).run P w = .ok () w' := by
    simp only [storeVar, hc]
    simp [hs, storeCells, Addr.add, h1]
  refine D_skip ?_ (k w' h2 h3)
  simp only [execOp, hx, hy, Instr.storeAt, Instr.sureAddr]
  simp [hst]
theorem D_storeA {t : TypeId} {x y : Operand} {g o s : Nat} {l c : List Value} {T : TypeId} (hs : ∀ w, (sizeOf t).run P w = .ok s w) (hb : Blk w g l T) (hx : ov n f x = .pointer (some ⟨g, o, none⟩)) (hy : ov n f y = .agg c.toArray) (hc : c.length = s) (hv : c.all plainV = true) (ho : Nat.ble (o + c.length) l.length = true)
    {l' : List Value} (hl' : l.take o ++ c ++ l.drop (o + c.length) = l') (k : ∀ w', Kp g w w' → Blk w' g l' T → K (E n (upo f d undef)) w') :
    wpO P ops Q ⟨d, .store t x y, ty, pos, aft, none⟩ K (E n f) w := by
  obtain ⟨w', h1, h2, h3⟩ := run_storeCells (P := P) (o := o) c w l 0 hb hv (by simpa using Nat.le_of_ble_eq_true ho)
  have hst : (storeVar t ⟨g, o, none⟩ (.agg c.toArray)).run P w = .ok () w' := by
    simp only [storeVar, Value.cells]
    simp [hs, hc, h1]
  subst hl'
  refine D_skip ?_ (k w' h2 (by simpa using h3))
  simp only [execOp, hx, hy, Instr.storeAt, Instr.sureAddr]
  simp [hst]
theorem cgD {c : Bool} {u : Value} {b want : Bool} {v : Value} (h : b = want) : cond ((b == want) && c) v u = cond c v u := by subst h; simp
theorem S_nil (h : Q .normal (E n f) w) : wpList P ops Q [] (E n f) w := h
end
section
variable {P : Program} {ops : Array Oper} {Q : Exit → Act → World → Prop} {n : Nat} {f : Nat → Value} {w w0 : World} {fuel : Nat} {listed : Array Bool}
def PQ (Q : Exit → Act → World → Prop) : Prop := ∀ c d v a w, Q (.panic c) (Act.put a d v) w → Q (.panic c) a w
theorem pq_body {fn : Func} {R : Ending → World → Prop} : PQ (bodyPost P fn R) := by
  intro c d v a w h
  cases d <;> exact h
theorem pq_then {next : Act → World → Prop} (h : PQ Q) : PQ (Exit.then next Q) := fun c d v a w hh => h c d v a w hh
theorem pq_block {id : Nat} (h : PQ Q) : PQ (Exit.inBlock id Q) := fun c d v a w hh => h c d v a w hh
def H (P : Program) (ops : Array Oper) (Q : Exit → Act → World → Prop) (S : World → Prop) (fuel : Nat) (listed : Array Bool) (a : Act) (w : World) : Prop := wpAnyH P .any ops Q S fuel listed a w
theorem W_held {id : Nat} {l : List Oper} (S : World → Prop) (hm : P.follows .mixedOrders = true) (h : ∀ w', Ext w w' → H P l.toArray Q S l.length (Array.replicate l.length false) (E n f) w') : (Code.region id l.toArray true).wp P Q (E n f) w := by
  refine wp_region_held (S := S) hm ?_
  have := h _ (Ext.drew w)
  simpa [H] using this
variable {S : World → Prop}
theorem H_take {i : Nat} {o : Oper} {v : Value} {listed' : Array Bool} (hi : ops[i]? = some o) (hs : Region.noSelect ops = true) (hf : Region.free .any ops listed i = true) (hr : (Region.ready .any ops listed).contains i = true) (hl : listed.setIfInBounds i true = listed')
    (hQ : PQ Q) (hS : S w) (hg : o.guard = none) (h : ∀ w, S w → (execOp (ov n f) o).run P w = .ok (.value v) w) (k : H P ops Q S fuel listed' (E n (upo f o.dst v)) w) : H P ops Q S (fuel + 1) listed (E n f) w := by
  subst hl
  refine wpAnyH_take hi hs hf hr (fun c a w h => hQ c _ _ a w h) (.inl ⟨by simp [Region.wanted, hg], fun w hw => by rw [E_eval]; exact h w hw⟩) hS ?_
  rw [E_put]
  exact k
theorem H_op {i : Nat} {o : Oper} {listed' : Array Bool} (hr : Region.ready .any ops listed = [i]) (hi : ops[i]? = some o) (hl : listed.setIfInBounds i true = listed')
    (h : wpO P ops Q o (fun a' w' => S w' ∧ H P ops Q S fuel listed' a' w') (E n f) w) : H P ops Q S (fuel + 1) listed (E n f) w := by
  subst hl
  refine wpAnyH_all hr (by simp) ?_
  intro j hj
  simp only [List.mem_singleton] at hj
  subst hj
  unfold wpOp
  simp only [hi]
  exact h
theorem H_op2 {i i2 : Nat} {o o2 : Oper} {listed1 listed2 : Array Bool} (hr : Region.ready .any ops listed = [i, i2]) (hi : ops[i]? = some o) (hi2 : ops[i2]? = some o2) (hl : listed.setIfInBounds i true = listed1) (hl2 : listed.setIfInBounds i2 true = listed2)
    (h : wpO P ops Q o (fun a' w' => S w' ∧ H P ops Q S fuel listed1 a' w') (E n f) w) (h2 : wpO P ops Q o2 (fun a' w' => S w' ∧ H P ops Q S fuel listed2 a' w') (E n f) w) : H P ops Q S (fuel + 1) listed (E n f) w := by
  subst hl hl2
  refine wpAnyH_all hr (by simp) ?_
  intro j hj
  simp only [List.mem_cons, List.not_mem_nil, or_false] at hj
  rcases hj with rfl | rfl
  · unfold wpOp; simp only [hi]; exact h
  · unfold wpOp; simp only [hi2]; exact h2
theorem H_done (hr : Region.ready .any ops listed = []) (h : Q .normal (E n f) w) : H P ops Q S fuel listed (E n f) w := wpAnyH_done hr h fuel
end
section
variable {P : Program} {ops : Array Oper} {rest : List Oper} {n : Nat} {f : Nat → Value} {w : World} {d : Option Tmp} {op : Op} {ty : TypeId} {pos : String} {aft : Array Edge} {Kt : Act → Prop} {v : Value}
theorem T_gw {c : Bool} {o : Oper} (hw : Region.wanted o (yielded ops (E n f).tmps) = c)
    (h : c = true → (execOp (ov n f) o).run P w = .ok (.value v) w) (k : wpStill P ops w Kt rest (E n (upo f o.dst (cond c v undef)))) :
    wpStill P ops w Kt (o :: rest) (E n f) := by
  simp only [wpStill, hw]
  cases c with
  | false => simp only [Bool.false_eq_true, if_false, E_put]; exact k
  | true =>
    simp only [if_true]
    simp only [Oper.still, E_eval, h rfl, Oper.stillUpon_value, E_put]
    exact k
theorem T_v (h : (execOp (ov n f) ⟨d, op, ty, pos, aft, none⟩).run P w = .ok (.value v) w) (k : wpStill P ops w Kt rest (E n (upo f d v))) : wpStill P ops w Kt (⟨d, op, ty, pos, aft, none⟩ :: rest) (E n f) :=
  T_gw (c := true) rfl (fun _ => h) k
theorem T_nil (h : Kt (E n f)) : wpStill P ops w Kt [] (E n f) := h
end
section
variable {P : Program} {Q : Exit → Act → World → Prop} {n : Nat} {f : Nat → Value} {w : World} {a : Act} {next : Act → World → Prop}
theorem W_region {id : Nat} {l : List Oper} (h : wpList P l.toArray Q l (E n f) w) : (Code.region id l.toArray false).wp P Q (E n f) w := wp_region_lit h
theorem W_draw {id : Nat} {l : List Oper} (hm : P.follows .mixedOrders = true) (hB : Region.lexB .any l.toArray = true)
    (h : wpQuiet P l.toArray (Ext w) (fun a' => ∀ w', Ext w w' → Q .normal a' w') l (E n f)) : (Code.region id l.toArray true).wp P Q (E n f) w :=
  wp_region_quiet (C := Ext w) hm hB (Ext.drew w) (by simpa using h)
theorem W_if {c : Operand} {x y : Code} {b : Bool} (hc : ov n f c = .bool b) (ht : b = true → x.wp P Q (E n f) w) (hf : b = false → y.wp P Q (E n f) w) : (Code.cond c x y).wp P Q (E n f) w :=
  wp_cond_split (by rw [E_eval]; exact hc) ht hf
theorem W_ift {c : Operand} {x y : Code} (hc : ov n f c = .bool true) (ht : x.wp P Q (E n f) w) : (Code.cond c x y).wp P Q (E n f) w :=
  wp_cond_true (by rw [E_eval]; exact hc) ht
theorem W_iff {c : Operand} {x y : Code} (hc : ov n f c = .bool false) (ht : y.wp P Q (E n f) w) : (Code.cond c x y).wp P Q (E n f) w :=
  wp_cond_false (by rw [E_eval]; exact hc) ht
theorem W_tail {id : Nat} {l : List Oper} (k : Nat) (hm : P.follows .mixedOrders = true) (hB : Region.lexTailB .any l.toArray k = true)
    (h : ∀ w', Ext w w' → wpStill P l.toArray w' (fun a' => wpList P l.toArray Q (l.drop k) a' w') (l.take k) (E n f)) : (Code.region id l.toArray true).wp P Q (E n f) w :=
  wp_region_still_tail k hm hB (h _ (Ext.drew w))
theorem W_loop {c : Code} (I : Nat → (Nat → Value) → World → Prop) {m : Nat} (h0 : I m f w)
    (h : ∀ m f w, I m f w → c.wp P (Exit.then (fun a' w' => ∃ m' f', m' < m ∧ a' = E n f' ∧ I m' f' w') Q) (E n f) w) : (Code.loop c).wp P Q (E n f) w := by
  have key : ∀ k m f w, I m f w → m < k → Code.rounds P c Q k (E n f) w := by
    intro k
    induction k with
    | zero => intro m f w _ hm; omega
    | succ k ih =>
      intro m f w hI hm
      refine wp_mono (h m f w hI) ?_
      intro e a' w' he
      cases e with
      | normal =>
        obtain ⟨m', f', hlt, rfl, hI'⟩ := he
        exact ih m' f' w' hI' (by omega)
      | _ => exact he
  exact wp_loop_rounds (m + 1) (key (m + 1) m f w h0 (by omega))
theorem T_tn (h : next a w) : Exit.then next Q .normal a w := h
theorem T_tr (h : Q .ret a w) : Exit.then next Q .ret a w := h
theorem T_te {id : Nat} (h : Q (.exit id) a w) : Exit.then next Q (.exit id) a w := h
theorem T_bn {id : Nat} (h : Q .normal a w) : Exit.inBlock id Q .normal a w := h
theorem T_br {id : Nat} (h : Q .ret a w) : Exit.inBlock id Q .ret a w := h
theorem T_be {id : Nat} (h : Q .normal a w) : Exit.inBlock id Q (.exit id) a w := by simpa [Exit.inBlock] using h
theorem T_bx {id i : Nat} (hi : Nat.beq i id = false) (h : Q (.exit i) a w) : Exit.inBlock id Q (.exit i) a w := by
  have : i ≠ id := fun e => by subst e; simp at hi
  simpa [Exit.inBlock, this] using h
theorem W_unroll {c : Code} (m : Nat) (h : Code.rounds P c Q (m + 1) a w) : (Code.loop c).wp P Q a w := wp_loop_rounds (m + 1) h
theorem W_round {c : Code} {m : Nat} (h : c.wp P (Exit.then (Code.rounds P c Q m) Q) a w) : Code.rounds P c Q (m + 1) a w := h
end
end Go.Proofs.YteeopgpgbdhmhaaGreat
namespace Go.Proofs.YteeopgpgbdhmhaaGreat
open Go.RowKit
set_option linter.unusedSimpArgs false
section
variable {P : Program} {ρ : Operand → Value} {w : World} {dst : Option Tmp} {ty : TypeId} {pos : String} {aft : Array Edge} {gd : Option (Nat × Bool)}
theorem R_assign {x : Operand} {v : Value} (hx : ρ x = v) : (execOp ρ ⟨dst, .assign x, ty, pos, aft, gd⟩).run P w = .ok (.value v) w := by
  simp [go_sem, hx]
theorem R_move {x : Operand} {v : Value} (hx : ρ x = v) : (execOp ρ ⟨dst, .move x, ty, pos, aft, gd⟩).run P w = .ok (.value v) w := by
  simp [go_sem, hx]
theorem R_not {t : TypeId} {x : Operand} {b : Bool} (hx : ρ x = .bool b) : (execOp ρ ⟨dst, .unOp .not t x, ty, pos, aft, gd⟩).run P w = .ok (.value (.bool (!b))) w := by
  simp [go_sem, hx]
theorem R_pick {c x y : Operand} {b : Bool} {u v : Value} (hc : ρ c = .bool b) (hx : ρ x = u) (hy : ρ y = v) : (execOp ρ ⟨dst, .pick c x y, ty, pos, aft, gd⟩).run P w = .ok (.value (if b then u else v)) w := by
  simp [go_sem, hc, hx, hy]
theorem R_pickA {c x y : Operand} {b v : Bool} (hc : ρ c = .bool b) (hx : ρ x = cond (b == true) (.bool v) undef) (hy : ρ y = .bool false) : (execOp ρ ⟨dst, .pick c x y, ty, pos, aft, gd⟩).run P w = .ok (.value (.bool (b && v))) w := by
  cases b <;> simp [go_sem, hc, hx, hy]
theorem R_pickO {c x y : Operand} {b v : Bool} (hc : ρ c = .bool b) (hx : ρ x = .bool true) (hy : ρ y = cond (b == false) (.bool v) undef) : (execOp ρ ⟨dst, .pick c x y, ty, pos, aft, gd⟩).run P w = .ok (.value (.bool (b || v))) w := by
  cases b <;> simp [go_sem, hc, hx, hy]
theorem R_cast {o : Oper} {v v' : Value} {w' : World} (h : (execOp ρ o).run P w = .ok (.value v) w') (e : v = v') : (execOp ρ o).run P w = .ok (.value v') w' := e ▸ h
section
variable {t t' : TypeId} {k : IntKind} {x y : Operand} {m n : Int} (hx : ρ x = .int k m) (hy : ρ y = .int k n)
include hx hy
theorem R_eqlI : (execOp ρ ⟨dst, .binOp .eql t x y t', ty, pos, aft, gd⟩).run P w = .ok (.value (.bool (m == n))) w := by
  simp [go_sem, hx, hy]
theorem R_neqI : (execOp ρ ⟨dst, .binOp .neq t x y t', ty, pos, aft, gd⟩).run P w = .ok (.value (.bool (m != n))) w := by
  simp [go_sem, hx, hy]
theorem R_lssI : (execOp ρ ⟨dst, .binOp .lss t x y t', ty, pos, aft, gd⟩).run P w = .ok (.value (.bool (decide (m < n)))) w := by
  simp [go_sem, hx, hy]
theorem R_leqI : (execOp ρ ⟨dst, .binOp .leq t x y t', ty, pos, aft, gd⟩).run P w = .ok (.value (.bool (decide (m ≤ n)))) w := by
  simp [go_sem, hx, hy]
theorem R_gtrI : (execOp ρ ⟨dst, .binOp .gtr t x y t', ty, pos, aft, gd⟩).run P w = .ok (.value (.bool (decide (n < m)))) w := by
  simp [go_sem, hx, hy]
theorem R_geqI : (execOp ρ ⟨dst, .binOp .geq t x y t', ty, pos, aft, gd⟩).run P w = .ok (.value (.bool (decide (n ≤ m)))) w := by
  simp [go_sem, hx, hy]
theorem R_addI : (execOp ρ ⟨dst, .binOp .add t x y t', ty, pos, aft, gd⟩).run P w = .ok (.value (.int k (k.wrap (m + n)))) w := by
  simp [go_sem, hx, hy]
theorem R_subI : (execOp ρ ⟨dst, .binOp .sub t x y t', ty, pos, aft, gd⟩).run P w = .ok (.value (.int k (k.wrap (m - n)))) w := by
  simp [go_sem, hx, hy]
theorem R_mulI : (execOp ρ ⟨dst, .binOp .mul t x y t', ty, pos, aft, gd⟩).run P w = .ok (.value (.int k (k.wrap (m * n)))) w := by
  simp [go_sem, hx, hy]
theorem R_andI : (execOp ρ ⟨dst, .binOp .and t x y t', ty, pos, aft, gd⟩).run P w = .ok (.value (.int k (bits .and k m n))) w := by
  simp [go_sem, hx, hy]
theorem R_orI : (execOp ρ ⟨dst, .binOp .or t x y t', ty, pos, aft, gd⟩).run P w = .ok (.value (.int k (bits .or k m n))) w := by
  simp [go_sem, hx, hy]
theorem R_xorI : (execOp ρ ⟨dst, .binOp .xor t x y t', ty, pos, aft, gd⟩).run P w = .ok (.value (.int k (bits .xor k m n))) w := by
  simp [go_sem, hx, hy]
theorem R_andNotI : (execOp ρ ⟨dst, .binOp .andNot t x y t', ty, pos, aft, gd⟩).run P w = .ok (.value (.int k (bits .andNot k m n))) w := by
  simp [go_sem, hx, hy]
end
theorem R_eqlB {t t' : TypeId} {x y : Operand} {m n : Bool} (ht : P.underlying t = some .bool) (hx : ρ x = .bool m) (hy : ρ y = .bool n) : (execOp ρ ⟨dst, .binOp .eql t x y t', ty, pos, aft, gd⟩).run P w = .ok (.value (.bool (m == n))) w := by
  simp [go_sem, hx, hy, ht]
theorem R_eqlA {t t' : TypeId} {x y : Operand} {xs ys : Array Value} {z : Bool} (ht : P.eqGuardType P.depth t = false) (h : (Op.equalIn 10000 t (.agg xs) (.agg ys)).run P w = .ok z w) (hx : ρ x = .agg xs) (hy : ρ y = .agg ys) : (execOp ρ ⟨dst, .binOp .eql t x y t', ty, pos, aft, gd⟩).run P w = .ok (.value (.bool z)) w := by
  simp [go_sem, hx, hy, ht, h]
theorem R_neqA {t t' : TypeId} {x y : Operand} {xs ys : Array Value} {z : Bool} (ht : P.eqGuardType P.depth t = false) (h : (Op.equalIn 10000 t (.agg xs) (.agg ys)).run P w = .ok z w) (hx : ρ x = .agg xs) (hy : ρ y = .agg ys) : (execOp ρ ⟨dst, .binOp .neq t x y t', ty, pos, aft, gd⟩).run P w = .ok (.value (.bool (!z))) w := by
  simp [go_sem, hx, hy, ht, h]
theorem R_fieldAddr {t : TypeId} {j : Nat} {x : Operand} {b o s : Nat} {fs : Array Field} {fd : Field} (ht : ∀ w, (underlying t).run P w = .ok (.struct fs) w) (hj : fs[j]? = some fd) (hs : ∀ w, (sizeOf fd.type).run P w = .ok (s + 1) w) (hx : ρ x = .pointer (some ⟨b, o, none⟩)) :
    (execOp ρ ⟨dst, .fieldAddr t x j, ty, pos, aft, gd⟩).run P w = .ok (.value (.pointer (some ⟨b, o + fd.offset, none⟩))) w := by
  simp [go_sem, hx, ht, hj, hs]
theorem R_load1 {t : TypeId} {x : Operand} {a : Addr} {v : Value} (ht : ∀ w, (isAgg t).run P w = .ok false w) (hx : ρ x = .pointer (some a)) (hc : w.cell? a = some v) : (execOp ρ ⟨dst, .load t x, ty, pos, aft, gd⟩).run P w = .ok (.value v) w := by
  simp [go_sem, hx, hc, ht]
theorem R_load {t : TypeId} {x : Operand} {g o : Nat} {l : List Value} {T : TypeId} {v : Value} (ht : ∀ w, (isAgg t).run P w = .ok false w) (hb : Blk w g l T) (hx : ρ x = .pointer (some ⟨g, o, none⟩)) (hv : l[o]? = some v) : (execOp ρ ⟨dst, .load t x, ty, pos, aft, gd⟩).run P w = .ok (.value v) w :=
  R_load1 ht hx ((hb.cell o).trans hv)
theorem add_none (g o j : Nat) : (⟨g, o, none⟩ : Addr).add j = ⟨g, o + j, none⟩ := by unfold Addr.add; split <;> simp_all
theorem R_loadA {t : TypeId} {x : Operand} {g o s : Nat} {l c : List Value} {T : TypeId} (ht : ∀ w, (isAgg t).run P w = .ok true w) (hs : ∀ w, (sizeOf t).run P w = .ok s w) (hb : Blk w g l T) (hx : ρ x = .pointer (some ⟨g, o, none⟩)) (hc : (l.drop o).take s = c) (hl : Nat.ble (o + s) l.length = true) :
    (execOp ρ ⟨dst, .load t x, ty, pos, aft, gd⟩).run P w = .ok (.value (.agg c.toArray)) w := by
  have hl' : o + s ≤ l.length := Nat.le_of_ble_eq_true hl
  have h := run_loadCellsFrom (P := P) w ⟨g, o, none⟩ (fun j => l[o + j]?.getD undef) s 0 #[] (fun j hj => by
    rw [add_none, hb.cell, Nat.zero_add]; simp only [List.getElem?_eq_getElem (show o + j < l.length by omega), Option.getD_some])
  have e : (List.range s).map (fun j => l[o + (0 + j)]?.getD undef) = c := by
    rw [← hc]
    apply List.ext_getElem
    · simp; omega
    · intro i h1 h2
      have hi : i < s := by simpa using h1
      have : o + i < l.length := by omega
      simp [this]
  rw [e] at h
  simp [go_sem, hx, ht, hs, h]
theorem R_build0 {t e : TypeId} {len s : Nat} {z : Array Value} (ht : ∀ w, (underlying t).run P w = .ok (.array len e) w) (hs : ∀ w, (sizeOf e).run P w = .ok s w) (hz : ∀ w, (zeroValue t).run P w = .ok (.agg z) w) : (execOp ρ ⟨dst, .build t #[], ty, pos, aft, gd⟩).run P w = .ok (.value (.agg z)) w := by
  simp [go_sem, hz, ht, hs]
theorem R_buildA {t e : TypeId} {len s : Nat} {z : Array Value} {parts : Array (Nat × Operand)} {vs : List (Nat × Value)} {c : List Value} (ht : ∀ w, (underlying t).run P w = .ok (.array len e) w) (hs : ∀ w, (sizeOf e).run P w = .ok s w) (hz : ∀ w, (zeroValue t).run P w = .ok (.agg z) w)
    (hv : parts.toList.map (fun p => (p.1, ρ p.2)) = vs) (hf : Instr.fill (fun i => some (i * s, s)) z vs = some c.toArray) : (execOp ρ ⟨dst, .build t parts, ty, pos, aft, gd⟩).run P w = .ok (.value (.agg c.toArray)) w := by
  simp [go_sem, hz, ht, hs, Instr.build, Value.cells, hv, hf]
theorem R_buildS {t : TypeId} {fs : Array Field} {pl : Array (Nat × Nat)} {z : Array Value} {parts : Array (Nat × Operand)} {vs : List (Nat × Value)} {c : List Value} (ht : ∀ w, (underlying t).run P w = .ok (.struct fs) w) (hp : ∀ w, (fs.mapM fun (f : Field) => Prod.mk f.offset <$> sizeOf f.type).run P w = .ok pl w) (hz : ∀ w, (zeroValue t).run P w = .ok (.agg z) w)
    (hv : parts.toList.map (fun p => (p.1, ρ p.2)) = vs) (hf : Instr.fill (pl[·]?) z vs = some c.toArray) : (execOp ρ ⟨dst, .build t parts, ty, pos, aft, gd⟩).run P w = .ok (.value (.agg c.toArray)) w := by
  simp [go_sem, hz, ht, hp, Instr.build, Value.cells, hv, hf]
theorem R_callF {F : FuncId} {xs : Array Operand} {ts : Array TypeId} {vs : List Value} (hF : ∀ args w, (callFunc F args).run P w = .ok (.enter F args) w) (hv : xs.toList.map ρ = vs) (hf : ρ (.func F) = .func (.func F) #[] #[]) :
    (execOp ρ ⟨dst, .call ⟨.value (.func F), xs, ts⟩, ty, pos, aft, gd⟩).run P w = .ok (.enter F vs.toArray) w := by
  have : xs.map ρ = vs.toArray := by rw [← hv]; exact Array.toList_inj.1 (by simp)
  simp [go_sem, hf, this, hF]
theorem mapv1 {x0 : Operand} {u0 : Value} (h0 : ρ x0 = u0) : (#[x0] : Array Operand).toList.map ρ = [u0] := by subst h0; rfl
theorem mapv2 {x0 x1 : Operand} {u0 u1 : Value} (h0 : ρ x0 = u0) (h1 : ρ x1 = u1) : (#[x0, x1] : Array Operand).toList.map ρ = [u0, u1] := by subst h0 h1; rfl
theorem mapv3 {x0 x1 x2 : Operand} {u0 u1 u2 : Value} (h0 : ρ x0 = u0) (h1 : ρ x1 = u1) (h2 : ρ x2 = u2) : (#[x0, x1, x2] : Array Operand).toList.map ρ = [u0, u1, u2] := by subst h0 h1 h2; rfl
theorem mapv4 {x0 x1 x2 x3 : Operand} {u0 u1 u2 u3 : Value} (h0 : ρ x0 = u0) (h1 : ρ x1 = u1) (h2 : ρ x2 = u2) (h3 : ρ x3 = u3) : (#[x0, x1, x2, x3] : Array Operand).toList.map ρ = [u0, u1, u2, u3] := by subst h0 h1 h2 h3; rfl
theorem R_index {t : TypeId} {x y : Operand} {k : IntKind} {i : Int} {l : List Value} {v : Value} {len : Nat} {e : TypeId} (ht : ∀ w, (underlying t).run P w = .ok (.array len e) w) (hs : ∀ w, (sizeOf e).run P w = .ok 1 w) (ha : ∀ w, (isAgg e).run P w = .ok false w) (hx : ρ x = .agg l.toArray) (hy : ρ y = .int k i) (hv : l[i.toNat]? = some v) (h0 : 0 ≤ i) (hl : i < len) :
    (execOp ρ ⟨dst, .index t x y, ty, pos, aft, gd⟩).run P w = .ok (.value v) w := by
  simp [go_sem, hx, hy, ht, hs, ha, hv, hl, h0, Instr.index, asIntOf]
theorem R_conv {s d : TypeId} {x : Operand} {k k' : IntKind} {m : Int} (hs : ∀ w, (underlying s).run P w = .ok (.int k) w) (hd : ∀ w, (underlying d).run P w = .ok (.int k') w) (hx : ρ x = .int k m) :
    (execOp ρ ⟨dst, .convert s d x, ty, pos, aft, gd⟩).run P w = .ok (.value (.int k' (k'.wrap m))) w := by
  simp [go_sem, hx, hs, hd, convert, Conv.intToInt]
theorem R_shl {t t' : TypeId} {x y : Operand} {k k' : IntKind} {m n : Int} (hx : ρ x = .int k m) (hy : ρ y = .int k' n) (hn : 0 ≤ n) : (execOp ρ ⟨dst, .binOp .shl t x y t', ty, pos, aft, gd⟩).run P w = .ok (.value (.int k (k.wrap (m * 2 ^ min n.toNat k.bits)))) w := by
  simp [go_sem, hx, hy, shift_shl_any _ _ _ _ hn]
theorem R_shr {t t' : TypeId} {x y : Operand} {k k' : IntKind} {m n : Int} (hx : ρ x = .int k m) (hy : ρ y = .int k' n) (hn : 0 ≤ n) : (execOp ρ ⟨dst, .binOp .shr t x y t', ty, pos, aft, gd⟩).run P w = .ok (.value (.int k (m / 2 ^ min n.toNat k.bits))) w := by
  simp [go_sem, hx, hy, shift_shr_any _ _ _ _ hn]
theorem R_indexAddrA {t : TypeId} {x y : Operand} {g o : Nat} {k : IntKind} {i : Int} {len s : Nat} {e : TypeId} (ht : ∀ w, (underlying t).run P w = .ok (.array len e) w) (hs : ∀ w, (sizeOf e).run P w = .ok s w) (hx : ρ x = .pointer (some ⟨g, o, none⟩)) (hy : ρ y = .int k i) (h0 : 0 ≤ i) (hl : i < len) :
    (execOp ρ ⟨dst, .indexAddr t x y, ty, pos, aft, gd⟩).run P w = .ok (.value (.pointer (some ⟨g, o + i.toNat * s, none⟩))) w := by
  simp [go_sem, hx, hy, ht, hs, h0, hl, Instr.indexAt, asIntOf, Instr.sureAddr, add_none]
end
end Go.Proofs.YteeopgpgbdhmhaaGreat
namespace Go.Proofs.YteeopgpgbdhmhaaGreat
open Go.RowKit
set_option linter.unusedSimpArgs false
set_option linter.unusedVariables false
def Rs (w : World) (v : Value) (m sz : Nat) (cs : List Value) : Prop :=
  cs.length = m * sz ∧ ∃ A c, v = .slice A m c ∧ m ≤ c ∧ c ≤ 9223372036854775807 ∧ (A = none → c = 0) ∧ ∀ j u, cs[j]? = some u → ∃ ad, A = some ad ∧ w.cell? (ad.add j) = some u
theorem add_add' (a : Addr) (i j : Nat) : (a.add i).add j = a.add (i + j) := by
  simp only [Addr.add]
  by_cases h : i = 0
  · subst h; simp
  · by_cases h2 : j = 0
    · subst h2; simp [h]
    · simp [h, h2, Nat.add_assoc]
theorem cell_ext {w w' : World} {a : Addr} {v : Value} (h : w.cell? a = some v) (e : Ext w w') : w'.cell? a = some v := (Below.cell e (World.block_lt_of_cell? w a h)).trans h
theorem Rs.ext {w w' : World} {v : Value} {m sz : Nat} {cs : List Value} (h : Rs w v m sz cs) (e : Ext w w') : Rs w' v m sz cs := by
  obtain ⟨hl, A, c, rfl, h1, h2, h3, h4⟩ := h
  refine ⟨hl, A, c, rfl, h1, h2, h3, fun j u hu => ?_⟩
  obtain ⟨ad, ha, hc⟩ := h4 j u hu
  exact ⟨ad, ha, cell_ext hc e⟩
def cutV (v : Value) (sz i j : Nat) : Value := match v with
  | .slice A _ c => .slice (if c = i then A else A.map (·.add (i * sz))) (j - i) (c - i)
  | _ => undef
def elV (v : Value) (k : Nat) : Value := match v with
  | .slice (some ad) _ _ => .pointer (some (ad.add k))
  | _ => undef
theorem Rs.cut {w : World} {v : Value} {m sz : Nat} {cs : List Value} (h : Rs w v m sz cs) {i j : Nat} (hij : i ≤ j) (hj : j ≤ m) : Rs w (cutV v sz i j) (j - i) sz ((cs.drop (i * sz)).take ((j - i) * sz)) := by
  obtain ⟨hl, A, c, rfl, h1, h2, h3, h4⟩ := h
  refine ⟨?_, _, _, rfl, by omega, by omega, ?_, ?_⟩
  · rw [List.length_take, List.length_drop, hl]
    have : (j - i) * sz ≤ m * sz - i * sz := by rw [← Nat.sub_mul]; exact Nat.mul_le_mul_right _ (by omega)
    omega
  · intro hA
    split at hA
    · have := h3 hA; omega
    · cases A with
      | none => have := h3 rfl; omega
      | some a => simp at hA
  · intro k u hu
    rw [List.getElem?_take] at hu
    split at hu
    · rw [List.getElem?_drop] at hu
      obtain ⟨ad, rfl, hc⟩ := h4 _ u hu
      by_cases hci : c = i
      · exfalso
        have : j - i = 0 := by omega
        rename_i hk
        rw [this] at hk
        omega
      · exact ⟨ad.add (i * sz), by simp [hci], by rw [add_add']; exact hc⟩
    · cases hu
theorem Rs.len {w : World} {v : Value} {m sz : Nat} {cs : List Value} (h : Rs w v m sz cs) : cs.length = m * sz := h.1
theorem own_rs {w : World} {lo : Nat} {e : TypeId} {sz n : Nat} {v : Value} {xs : List Value} (h : w.ownsRow lo e sz v n xs) : Rs w v n sz xs := by
  obtain ⟨hl, h | ⟨g, cap, cur, rfl, hg, hb, h1, h2, h3, h4⟩⟩ := h
  · obtain ⟨rfl, rfl⟩ := h
    have : xs = [] := by simpa using hl
    subst this
    exact ⟨hl, none, 0, rfl, by omega, by omega, fun _ => rfl, by simp⟩
  · refine ⟨hl, _, cap, rfl, h1, by simpa [maxLen] using h2, by simp, fun j u hu => ⟨_, rfl, ?_⟩⟩
    have hj : j < n * sz := by rw [← hl]; exact (List.getElem?_eq_some_iff.1 hu).1
    have : (⟨g, 0, none⟩ : Addr).add j = ⟨g, j, none⟩ := by unfold Addr.add; split <;> simp_all
    rw [this]
    simp only [World.cell?, hb]
    rw [← h4, List.getElem?_take, if_pos hj] at hu
    simpa using hu
theorem own_ext {w w' : World} {lo : Nat} {e : TypeId} {sz n : Nat} {v : Value} {xs : List Value} (h : w.ownsRow lo e sz v n xs) (k : Ext w w') : w'.ownsRow lo e sz v n xs := by
  obtain ⟨hl, h | ⟨g, cap, cur, rfl, hg, hb, h1, h2, h3, h4⟩⟩ := h
  · exact ⟨hl, .inl h⟩
  · exact ⟨hl, .inr ⟨g, cap, cur, rfl, hg, (Below.block k g (Array.getElem?_eq_some_iff.1 hb).1).trans hb, h1, h2, h3, h4⟩⟩
theorem own_kp {w w' : World} {lo : Nat} {e : TypeId} {sz n g' : Nat} {v : Value} {xs : List Value} (h : w.ownsRow lo e sz v n xs) (k : Kp g' w w') (hn : v.ownBlock ≠ some g') : w'.ownsRow lo e sz v n xs := by
  obtain ⟨hl, h | ⟨g, cap, cur, rfl, hg, hb, h1, h2, h3, h4⟩⟩ := h
  · exact ⟨hl, .inl h⟩
  · have : g ≠ g' := fun e => hn (by subst e; rfl)
    exact ⟨hl, .inr ⟨g, cap, cur, rfl, hg, (k.block g this).trans hb, h1, h2, h3, h4⟩⟩
theorem own_lo {w : World} {lo : Nat} {e : TypeId} {sz n : Nat} {v : Value} {xs : List Value} (h : w.ownsRow lo e sz v n xs) {lo' : Nat} (hl : lo' ≤ lo) : w.ownsRow lo' e sz v n xs := by
  obtain ⟨hl, h | ⟨g, cap, cur, rfl, hg, hb, h1, h2, h3, h4⟩⟩ := h
  · exact ⟨hl, .inl h⟩
  · exact ⟨hl, .inr ⟨g, cap, cur, rfl, by omega, hb, h1, h2, h3, h4⟩⟩
theorem own_nil (w : World) (lo : Nat) (e : TypeId) (sz : Nat) : w.ownsRow lo e sz (.slice none 0 0) 0 [] := ⟨by simp, .inl ⟨rfl, rfl⟩⟩
theorem own_ge {w : World} {lo : Nat} {e : TypeId} {sz n : Nat} {v : Value} {xs : List Value} (h : w.ownsRow lo e sz v n xs) {k : Nat} (hk : v.ownBlock = some k) : lo ≤ k := by
  obtain ⟨_, ⟨rfl, _⟩ | ⟨g, cap, cur, rfl, hg, _⟩⟩ := h
  · cases hk
  · cases hk; exact hg
theorem own_lt {w : World} {lo : Nat} {e : TypeId} {sz n : Nat} {v : Value} {xs : List Value} (h : w.ownsRow lo e sz v n xs) {k : Nat} (hk : v.ownBlock = some k) : k < w.heap.size := by
  obtain ⟨_, ⟨rfl, _⟩ | ⟨g, cap, cur, rfl, hg, hb, _⟩⟩ := h
  · cases hk
  · cases hk; exact (Array.getElem?_eq_some_iff.1 hb).1
theorem own_neB {w : World} {lo : Nat} {e T : TypeId} {sz n b : Nat} {v : Value} {xs l : List Value} (h : w.ownsRow lo e sz v n xs) (hb : Blk w b l T) (hT : Nat.beq T e = false) : v.ownBlock ≠ some b := by
  obtain ⟨_, ⟨rfl, _⟩ | ⟨g, cap, cur, rfl, hg, hc, _⟩⟩ := h
  · simp [Value.ownBlock]
  · intro e'
    simp only [Value.ownBlock, Option.some.injEq] at e'
    subst e'
    have : w.heap[g]? = _ := hb
    rw [hc] at this
    simp only [Option.some.injEq, Obj.cells.injEq] at this
    rw [this.2.1] at hT
    simp at hT
theorem own_ne {w : World} {lo lo' : Nat} {e e' : TypeId} {sz sz' n n' : Nat} {v v' : Value} {xs xs' : List Value} (h : w.ownsRow lo e sz v n xs) (h' : w.ownsRow lo' e' sz' v' n' xs') (hT : Nat.beq e e' = false) : ∀ k, v.ownBlock = some k → v'.ownBlock ≠ some k := by
  intro k hk hk'
  obtain ⟨_, ⟨rfl, _⟩ | ⟨g, cap, cur, rfl, hg, hb, _⟩⟩ := h
  · cases hk
  · obtain ⟨_, ⟨rfl, _⟩ | ⟨g', cap', cur', rfl, hg', hb', _⟩⟩ := h'
    · cases hk'
    · cases hk; cases hk'
      rw [hb] at hb'
      simp only [Option.some.injEq, Obj.cells.injEq] at hb'
      rw [hb'.2.1] at hT
      simp at hT
theorem own_apart {w w' : World} {lo : Nat} {e e' : TypeId} {sz sz' n n' : Nat} {v v' : Value} {xs xs' : List Value} (h : w.ownsRow lo e sz v n xs) (h' : w'.ownsRow w.heap.size e' sz' v' n' xs') : ∀ k, v.ownBlock = some k → v'.ownBlock ≠ some k :=
  fun k hk hk' => by have := own_lt h hk; have := own_ge h' hk'; omega
theorem Ext.grown {a w w' : World} {row : Option Nat} (h : Ext a w) (g : w.grownBy w' row) (hr : ∀ k, row = some k → a.heap.size ≤ k) : Ext a w' := Below.grown h g (Ext.size h) hr
theorem Blk.grown {w w' : World} {b : Nat} {l : List Value} {T : TypeId} {row : Option Nat} (h : Blk w b l T) (g : w.grownBy w' row) (hr : row ≠ some b) : Blk w' b l T := (g.block b h.lt (fun e => hr e.symm)).trans h
theorem own_grown {w w' : World} {lo : Nat} {e : TypeId} {sz n : Nat} {v : Value} {xs : List Value} {row : Option Nat} (h : w.ownsRow lo e sz v n xs) (g : w.grownBy w' row) (hr : ∀ k, v.ownBlock = some k → row ≠ some k) : w'.ownsRow lo e sz v n xs := by
  obtain ⟨hl, h | ⟨b, cap, cur, rfl, hg, hb, h1, h2, h3, h4⟩⟩ := h
  · exact ⟨hl, .inl h⟩
  · exact ⟨hl, .inr ⟨b, cap, cur, rfl, hg, (g.block b (Array.getElem?_eq_some_iff.1 hb).1 (fun e => hr b rfl e.symm)).trans hb, h1, h2, h3, h4⟩⟩
theorem plain_one {u : Value} (h : plainV u = true) : u.oneCell' = true := by cases u <;> simp_all [plainV, Value.oneCell']
def ElT (P : Program) (e : TypeId) (sz bytes : Nat) : Prop := ∃ i z, P.info? e = some i ∧ i.zero = some z ∧ i.size = sz ∧ i.bytes = bytes ∧ z.cells.size = sz
theorem run_append {P : Program} {w : World} {lo : Nat} {t ty e : TypeId} {sz bytes n m : Nat} {v u : Value} {xs news : List Value} (hI : ElT P e sz bytes) (hsz : 0 < sz) (ht : P.underlying t = some (.slice e)) (ho : w.ownsRow lo e sz v n xs) (hu : Rs w u m sz news) (hp : news.all plainV = true)
    (hb : (n + m) * bytes ≤ 140737488355328) (h63 : n + m ≤ 9223372036854775807) (hlo : lo ≤ w.heap.size) :
    ∃ v' w', (Builtin.append_ #[t, t] ty #[v, u]).run P w = .ok v' w' ∧ w'.ownsRow lo e sz v' (n + m) (xs ++ news) ∧ w.grownBy w' v.ownBlock := by
  obtain ⟨i, z, hi, hz, h1, h2, h3⟩ := hI
  obtain ⟨hl, A, c, rfl, hmc, hc63, hA, hcells⟩ := hu
  cases A with
  | some a =>
    obtain ⟨v', w', hr, h4, h5, _⟩ := run_append_own (P := P) w lo t ty e i z sz bytes ht hi hz h1 h2 h3 hsz v n xs ho a m c news hl (fun j u hj => by obtain ⟨ad, hAd, hc⟩ := hcells j u hj; cases hAd; exact hc) (fun u hu => plain_one (List.all_eq_true.1 hp u hu)) (by simpa [maxLen] using h63) hb hlo
    exact ⟨v', w', hr, h4, h5⟩
  | none =>
    have hc0 := hA rfl
    have hm0 : m = 0 := by omega
    subst hm0 hc0
    have hn : news = [] := by simpa using hl
    subst hn
    exact ⟨v, w, run_append_owned_none (P := P) (w := w) lo t ty e i sz ht hi v n xs ho, by simpa using ho, ⟨rfl, rfl, rfl, Nat.le_refl _, fun _ _ _ => rfl⟩⟩
section
variable {P : Program} {ops : Array Oper} {Q : Exit → Act → World → Prop} {K : Act → World → Prop} {n : Nat} {f : Nat → Value} {w : World} {d : Option Tmp} {ty : TypeId} {pos : String} {aft : Array Edge}
theorem D_append {lo : Nat} {t e : TypeId} {sz bytes k m : Nat} {s x : Operand} {v u : Value} {xs news : List Value} (hI : ElT P e sz bytes) (hsz : 0 < sz) (ht : P.underlying t = some (.slice e)) (hs : ov n f s = v) (hx : ov n f x = u) (ho : w.ownsRow lo e sz v k xs) (hu : Rs w u m sz news) (hp : news.all plainV = true)
    (hb : (k + m) * bytes ≤ 140737488355328) (h63 : k + m ≤ 9223372036854775807) (hlo : lo ≤ w.heap.size)
    (h : ∀ v' w', w'.ownsRow lo e sz v' (k + m) (xs ++ news) → w.grownBy w' v.ownBlock → K (E n (upo f d v')) w') :
    wpO P ops Q ⟨d, .call ⟨.builtin .append, #[s, x], #[t, t]⟩, ty, pos, aft, none⟩ K (E n f) w := by
  obtain ⟨v', w', h1, h2, h3⟩ := run_append (ty := ty) hI hsz ht ho hu hp hb h63 hlo
  refine D_v (v := v') (w' := w') ?_ (h v' w' h2 h3)
  simp only [execOp, resolve, invoke, builtin, Sem.run_bind, Sem.run_pure, Result.andThen_ok, List.map_toArray, List.map_cons, List.map_nil, hs, hx, h1]
theorem D_make {t e : TypeId} {sz bytes : Nat} {x y : Operand} {kl kc : IntKind} {l c : Nat} {z : Value} {i : TypeInfo} (hi : P.info? e = some i) (hz : i.zero = some z) (hsz : i.size = sz) (hby : i.bytes = bytes) (hzc : z.cells.size = sz) (ht : P.underlying t = some (.slice e))
    (hx : ov n f x = .int kl (l : Int)) (hy : ov n f y = .int kc (c : Int)) (hlc : l ≤ c) (hb : bytes * c ≤ 281474976710656) (h63 : c ≤ 9223372036854775807)
    (h : ∀ v' w', w'.ownsRow w.heap.size e sz v' l ((madeCells z.cells (c * sz)).toList.take (l * sz)) → Ext w w' → v' = .slice (some ⟨w.heap.size, 0, none⟩) l c → K (E n (upo f d v')) w') :
    wpO P ops Q ⟨d, .makeSlice t x y, ty, pos, aft, none⟩ K (E n f) w := by
  have h1 := run_make (P := P) (w := w) t e i z ht hi hz kl kc (l : Int) (c : Int) (by omega) (by omega) (by rw [hby]; omega) (by omega)
  simp only [Int.toNat_natCast] at h1
  have hsize : (madeCells z.cells (c * i.size)).size = c * i.size := by simp [madeCells]
  refine D_v (v := .slice (some ⟨w.heap.size, 0, none⟩) l c) (w' := w.alloc (.cells (madeCells z.cells (c * i.size)) e)) ?_ ?_
  · simp [go_sem, hx, hy, h1]
  · refine h _ _ ?_ (Ext.alloc _ _) rfl
    subst hsz
    refine ⟨?_, .inr ⟨w.heap.size, c, _, rfl, Nat.le_refl _, heap_alloc_new w _, hlc, by simpa [maxLen] using h63, hsize, rfl⟩⟩
    rw [List.length_take, Array.length_toList, hsize]
    exact Nat.min_eq_left (Nat.mul_le_mul_right _ hlc)
theorem D_buildSlice {t e : TypeId} {sz len : Nat} {parts : Array (Nat × Operand)} {vs : List (Nat × Value)} {z c : List Value} (ht : P.underlying t = some (.slice e)) (hs : ∀ w, (sizeOf e).run P w = .ok sz w) (hz : ∀ w, ∃ zv, (zeroValue e).run P w = .ok zv w ∧ zv.cells = z.toArray) (hsz : 0 < len * sz) (hbig : len * sz ≤ 16777216)
    (hv : parts.toList.map (fun p => (p.1, ov n f p.2)) = vs) (hf : Instr.fill (fun i => some (i * sz, sz)) ((Array.range (len * sz)).map fun x => z[x % z.length]?.getD default) vs = some c.toArray) (hc : c.length = len * sz)
    (h : ∀ v' w', w'.ownsRow w.heap.size e sz v' len c → Ext w w' → K (E n (upo f d v')) w') :
    wpO P ops Q ⟨d, .buildSlice t len parts, ty, pos, aft, none⟩ K (E n f) w := by
  refine D_v (v := .slice (some ⟨w.heap.size, 0, none⟩) len len) (w' := w.alloc (.cells c.toArray e)) ?_ ?_
  · obtain ⟨zv, hz1, hz2⟩ := hz w
    have hne : ¬ len * sz = 0 := by omega
    have hbg : ¬ 16777216 < len * sz := by omega
    unfold Value.cells at hz2
    simp only [go_sem, Instr.buildSlice, run_underlying ht, hs, hne, hbg, hz1, hv, if_false, Result.andThen_ok, Sem.run_bind, Sem.run_pure, Array.toList_map, gt_iff_lt, Nat.reducePow]
    simp [hz1, hz2, hv, hf, hs, go_sem]
  · refine h _ _ ⟨hc, .inr ⟨w.heap.size, len, _, rfl, Nat.le_refl _, heap_alloc_new w _, Nat.le_refl _, ?_, by simpa using hc, ?_⟩⟩ (Ext.alloc _ _)
    · simp only [maxLen]
      have : len ≤ len * sz := Nat.le_mul_of_pos_right _ (by rcases Nat.eq_zero_or_pos sz with h | h; · subst h; simp at hsz
                                                             · exact h)
      omega
    · simp [← hc]
end
section
variable {P : Program} {ρ : Operand → Value} {w : World} {dst : Option Tmp} {ty : TypeId} {pos : String} {aft : Array Edge} {gd : Option (Nat × Bool)}
theorem R_extract {x : Operand} {i : Nat} {vs : List Value} {v : Value} (hx : ρ x = .tuple vs.toArray) (hv : vs[i]? = some v) : (execOp ρ ⟨dst, .extract x i, ty, pos, aft, gd⟩).run P w = .ok (.value v) w := by
  simp [go_sem, hx, hv]
theorem R_len {w1 : World} {x : Operand} {v : Value} {m sz : Nat} {cs : List Value} {t e : TypeId} (ht : P.underlying t = some (.slice e)) (hx : ρ x = v) (h : Rs w1 v m sz cs) : (execOp ρ ⟨dst, .call ⟨.builtin .len, #[x], #[t]⟩, ty, pos, aft, gd⟩).run P w = .ok (.value (.int .i64 (m : Int))) w := by
  obtain ⟨_, A, c, rfl, _⟩ := h
  simp [go_sem, hx, Builtin.len_, run_underlying ht]
theorem R_sliceLo {w1 : World} {t e : TypeId} {x lo : Operand} {v : Value} {m sz : Nat} {cs : List Value} {k : IntKind} {i : Nat} (ht : P.underlying t = some (.slice e)) (hs : ∀ w, (sizeOf e).run P w = .ok sz w) (hx : ρ x = v) (hlo : ρ lo = .int k (i : Int)) (h : Rs w1 v m sz cs) (hi : i ≤ m) :
    (execOp ρ ⟨dst, .slice t x (some lo) none none, ty, pos, aft, gd⟩).run P w = .ok (.value (cutV v sz i m)) w := by
  obtain ⟨_, A, c, rfl, hm, _⟩ := h
  have : i ≤ c := by omega
  simp [go_sem, hx, hlo, Instr.sliceAt, Instr.slice, Instr.sliceBounds, Instr.sliceBound, run_underlying ht, hs, asIntOf, hi, cutV]
theorem R_sliceHi {w1 : World} {t e : TypeId} {x hi : Operand} {v : Value} {m sz : Nat} {cs : List Value} {k : IntKind} {j : Nat} (ht : P.underlying t = some (.slice e)) (hs : ∀ w, (sizeOf e).run P w = .ok sz w) (hx : ρ x = v) (hhi : ρ hi = .int k (j : Int)) (h : Rs w1 v m sz cs) (hj : j ≤ m) :
    (execOp ρ ⟨dst, .slice t x none (some hi) none, ty, pos, aft, gd⟩).run P w = .ok (.value (cutV v sz 0 j)) w := by
  obtain ⟨_, A, c, rfl, hm, _⟩ := h
  have h1 : j ≤ c := by omega
  simp [go_sem, hx, hhi, Instr.sliceAt, Instr.slice, Instr.sliceBounds, Instr.sliceBound, run_underlying ht, hs, asIntOf, h1, cutV]
theorem R_sliceLH {w1 : World} {t e : TypeId} {x lo hi : Operand} {v : Value} {m sz : Nat} {cs : List Value} {k k' : IntKind} {i j : Nat} (ht : P.underlying t = some (.slice e)) (hs : ∀ w, (sizeOf e).run P w = .ok sz w) (hx : ρ x = v) (hlo : ρ lo = .int k (i : Int)) (hhi : ρ hi = .int k' (j : Int)) (h : Rs w1 v m sz cs) (hij : i ≤ j) (hj : j ≤ m) :
    (execOp ρ ⟨dst, .slice t x (some lo) (some hi) none, ty, pos, aft, gd⟩).run P w = .ok (.value (cutV v sz i j)) w := by
  obtain ⟨_, A, c, rfl, hm, _⟩ := h
  have h1 : j ≤ c := by omega
  simp [go_sem, hx, hlo, hhi, Instr.sliceAt, Instr.slice, Instr.sliceBounds, Instr.sliceBound, run_underlying ht, hs, asIntOf, h1, hij, cutV]
theorem R_sliceArr {t e : TypeId} {x : Operand} {g o len : Nat} {s : Nat} (ht : P.underlying t = some (.array (len + 1) e)) (hs : ∀ w, (sizeOf e).run P w = .ok s w) (hx : ρ x = .pointer (some ⟨g, o, none⟩)) :
    (execOp ρ ⟨dst, .slice t x none none none, ty, pos, aft, gd⟩).run P w = .ok (.value (.slice (some ⟨g, o, none⟩) (len + 1) (len + 1))) w := by
  simp [go_sem, hx, Instr.sliceAt, Instr.sureAddr, Instr.sliceBounds, run_underlying ht, hs, Addr.add]
theorem R_elAddr {w1 : World} {t e : TypeId} {x y : Operand} {v : Value} {m sz : Nat} {cs : List Value} {k : IntKind} {i : Nat} (ht : P.underlying t = some (.slice e)) (hs : ∀ w, (sizeOf e).run P w = .ok sz w) (hx : ρ x = v) (hy : ρ y = .int k (i : Int)) (h : Rs w1 v m sz cs) (hi : i < m) :
    (execOp ρ ⟨dst, .indexAddr t x y, ty, pos, aft, gd⟩).run P w = .ok (.value (elV v (i * sz))) w := by
  obtain ⟨_, A, c, rfl, hm, _, hA, _⟩ := h
  cases A with
  | none => have := hA rfl; omega
  | some ad => simp [go_sem, hx, hy, Instr.indexAt, run_underlying ht, hs, asIntOf, hi, elV]
theorem R_loadEl {t : TypeId} {x : Operand} {v u : Value} {m sz j : Nat} {cs : List Value} (ht : ∀ w, (isAgg t).run P w = .ok false w) (hx : ρ x = elV v j) (h : Rs w v m sz cs) (hu : cs[j]? = some u) : (execOp ρ ⟨dst, .load t x, ty, pos, aft, gd⟩).run P w = .ok (.value u) w := by
  obtain ⟨_, A, c, rfl, _, _, _, hc⟩ := h
  obtain ⟨ad, rfl, hcell⟩ := hc j u hu
  exact R_load1 ht hx hcell
end
theorem Blk.rs {w : World} {g o : Nat} {l : List Value} {T : TypeId} (h : Blk w g l T) (s : Nat) (hs : o + s ≤ l.length) (h63 : s ≤ 9223372036854775807) : Rs w (.slice (some ⟨g, o, none⟩) s s) s 1 ((l.drop o).take s) := by
  refine ⟨by simp; omega, _, _, rfl, Nat.le_refl _, h63, by simp, fun j u hu => ⟨_, rfl, ?_⟩⟩
  rw [List.getElem?_take] at hu
  split at hu
  · rw [List.getElem?_drop] at hu
    have : (⟨g, o, none⟩ : Addr).add j = ⟨g, o + j, none⟩ := by unfold Addr.add; split <;> simp_all
    rw [this, h.cell, hu]
  · cases hu
def u8 (b : UInt8) : Value := .int .u8 (b.toNat : Int)
def bl (l : List UInt8) : List Value := l.map u8
def by8 (m : Int) : UInt8 := UInt8.ofNat (m % 256).toNat
theorem by8_toNat (m : Int) : ((by8 m).toNat : Int) = m % 256 := by
  simp only [by8, UInt8.toNat_ofNat']
  omega
def Bs (w : World) (v : Value) (l : List UInt8) : Prop := Rs w v l.length 1 (bl l)
def OwnB (w : World) (lo : Nat) (v : Value) (l : List UInt8) : Prop := w.ownsRow lo 5 1 v l.length (bl l)
theorem bl_plain (l : List UInt8) : (bl l).all plainV = true := by simp [bl, u8, plainV]
theorem bl_app (a b : List UInt8) : bl (a ++ b) = bl a ++ bl b := by simp [bl]
theorem bl_len (a : List UInt8) : (bl a).length = a.length := by simp [bl]
theorem Bs.ext {w w' : World} {v : Value} {l : List UInt8} (h : Bs w v l) (e : Ext w w') : Bs w' v l := Rs.ext h e
theorem OwnB.bs {w : World} {lo : Nat} {v : Value} {l : List UInt8} (h : OwnB w lo v l) : Bs w v l := own_rs h
theorem OwnB.ext {w w' : World} {lo : Nat} {v : Value} {l : List UInt8} (h : OwnB w lo v l) (e : Ext w w') : OwnB w' lo v l := own_ext h e
theorem OwnB.kp {w w' : World} {lo g : Nat} {v : Value} {l : List UInt8} (h : OwnB w lo v l) (k : Kp g w w') (hn : v.ownBlock ≠ some g) : OwnB w' lo v l := own_kp h k hn
theorem OwnB.lo {w : World} {lo lo' : Nat} {v : Value} {l : List UInt8} (h : OwnB w lo v l) (hl : lo' ≤ lo) : OwnB w lo' v l := own_lo h hl
theorem OwnB.nil (w : World) (lo : Nat) : OwnB w lo (.slice none 0 0) [] := own_nil w lo 5 1
theorem OwnB.of {w : World} {lo n : Nat} {v : Value} {xs : List Value} {l : List UInt8} (h : w.ownsRow lo 5 1 v n xs) (hn : n = l.length) (hx : xs = bl l) : OwnB w lo v l := by subst hn hx; exact h
theorem OwnB.grown {w w' : World} {lo : Nat} {v : Value} {l : List UInt8} {row : Option Nat} (h : OwnB w lo v l) (g : w.grownBy w' row) (hr : ∀ k, v.ownBlock = some k → row ≠ some k) : OwnB w' lo v l := own_grown h g hr
theorem OwnB.neB {w : World} {lo T b : Nat} {v : Value} {l : List UInt8} {c : List Value} (h : OwnB w lo v l) (hb : Blk w b c T) (hT : Nat.beq T 5 = false) : v.ownBlock ≠ some b := own_neB h hb hT
theorem Blk.bs {w : World} {g : Nat} {l : List Value} {T : TypeId} (h : Blk w g l T) (o : Nat) (b : List UInt8) (hs : Nat.ble (o + b.length) l.length = true) (hl : (l.drop o).take b.length = bl b) (h63 : Nat.ble b.length 1000 = true) : Bs w (.slice (some ⟨g, o, none⟩) b.length b.length) b := by
  have := h.rs (o := o) b.length (Nat.le_of_ble_eq_true hs) (by have := Nat.le_of_ble_eq_true h63; omega)
  rw [hl] at this
  exact this
theorem Bs.cut {w : World} {v : Value} {l : List UInt8} (h : Bs w v l) {i j : Nat} (hij : i ≤ j) (hj : j ≤ l.length) : Bs w (cutV v 1 i j) ((l.drop i).take (j - i)) := by
  have := Rs.cut h hij hj
  have e : ((l.drop i).take (j - i)).length = j - i := by rw [List.length_take, List.length_drop]; omega
  unfold Bs
  rw [e]
  simpa [bl, List.map_take, List.map_drop] using this
def RetE (w : World) (Φ : Value → World → Prop) : Ending → World → Prop := fun e w' => ∃ v, e = .returned v ∧ Ext w w' ∧ Φ v w'
section
variable {P : Program} {ops : Array Oper} {Q : Exit → Act → World → Prop} {K : Act → World → Prop} {n : Nat} {f : Nat → Value} {w : World} {d : Option Tmp} {op : Op} {ty : TypeId} {pos : String} {aft : Array Edge}
theorem D_callE {F : FuncId} {args : Array Value} {Φ : Value → World → Prop} (h : (execOp (ov n f) ⟨d, op, ty, pos, aft, none⟩).run P w = .ok (.enter F args) w) (hc : Calls P F args w (RetE w Φ))
    (k : ∀ v w', Ext w w' → Φ v w' → K (E n (upo f d v)) w') : wpO P ops Q ⟨d, op, ty, pos, aft, none⟩ K (E n f) w := by
  simp only [wpO, Region.wanted, if_true]
  refine .inl ?_
  simp only [Oper.wp, E_eval, h, Oper.upon]
  refine hc.mono ?_
  rintro e w1 ⟨v, rfl, h1, h2⟩
  simp only [E_put]
  exact k v w1 h1 h2
theorem D_callM {F : FuncId} {args : Array Value} {g : Nat} {l : List Value} {T : TypeId} (h : (execOp (ov n f) ⟨d, op, ty, pos, aft, none⟩).run P w = .ok (.enter F args) w) (hc : Calls P F args w (RetM w g l T))
    (k : ∀ w', Chg g w w' → Blk w' g l T → K (E n (upo f d (.tuple #[]))) w') : wpO P ops Q ⟨d, op, ty, pos, aft, none⟩ K (E n f) w := by
  simp only [wpO, Region.wanted, if_true]
  refine .inl ?_
  simp only [Oper.wp, E_eval, h, Oper.upon]
  refine hc.mono ?_
  rintro e w1 ⟨rfl, h1, h2⟩
  simp only [E_put]
  exact k w1 h1 h2
theorem D_appendB {lo : Nat} {t : TypeId} {s x : Operand} {v u : Value} {xs news : List UInt8} (hI : ElT P 5 1 1) (ht : P.underlying t = some (.slice 5)) (hs : ov n f s = v) (hx : ov n f x = u) (ho : OwnB w lo v xs) (hu : Bs w u news)
    (hb : xs.length + news.length ≤ 140737488355328) (hlo : lo ≤ w.heap.size)
    (h : ∀ v' w', OwnB w' lo v' (xs ++ news) → w.grownBy w' v.ownBlock → K (E n (upo f d v')) w') :
    wpO P ops Q ⟨d, .call ⟨.builtin .append, #[s, x], #[t, t]⟩, ty, pos, aft, none⟩ K (E n f) w :=
  D_append hI (by decide) ht hs hx ho hu (bl_plain _) (by omega) (by omega) hlo fun v' w' h1 h2 => h v' w' (OwnB.of h1 (by simp) (bl_app _ _).symm) h2
theorem D_make0 {t : TypeId} {x y : Operand} {kl kc : IntKind} {c : Nat} (hI : ElT P 5 1 1) (ht : P.underlying t = some (.slice 5)) (hx : ov n f x = .int kl ((0 : Nat) : Int)) (hy : ov n f y = .int kc (c : Int)) (hc : c ≤ 140737488355328)
    (h : ∀ v' w', OwnB w' w.heap.size v' [] → Ext w w' → K (E n (upo f d v')) w') : wpO P ops Q ⟨d, .makeSlice t x y, ty, pos, aft, none⟩ K (E n f) w := by
  obtain ⟨i, z, hi, hz, h1, h2, h3⟩ := hI
  exact D_make hi hz h1 h2 h3 ht hx hy (Nat.zero_le _) (by omega) (by omega) fun v' w' ho he _ => h v' w' (OwnB.of ho rfl (by simp [bl])) he
theorem fillB1 (b0 : UInt8) : Instr.fill (fun i => some (i * 1, 1)) ((Array.range (1 * 1)).map fun x => [Value.int .u8 0][x % [Value.int .u8 0].length]?.getD default) [(0, u8 b0)] = some (bl [b0]).toArray := by
  have : (Array.range (1 * 1)) = #[0] := by decide
  rw [this]
  simp [Instr.fill, u8, Value.cells, bl]
theorem fillB2 (b0 b1 : UInt8) : Instr.fill (fun i => some (i * 1, 1)) ((Array.range (2 * 1)).map fun x => [Value.int .u8 0][x % [Value.int .u8 0].length]?.getD default) [(0, u8 b0), (1, u8 b1)] = some (bl [b0, b1]).toArray := by
  have : (Array.range (2 * 1)) = #[0, 1] := by decide
  rw [this]
  simp [Instr.fill, u8, Value.cells, bl]
theorem fillB5 (b0 b1 b2 b3 b4 : UInt8) : Instr.fill (fun i => some (i * 1, 1)) ((Array.range (5 * 1)).map fun x => [Value.int .u8 0][x % [Value.int .u8 0].length]?.getD default) [(0, u8 b0), (1, u8 b1), (2, u8 b2), (3, u8 b3), (4, u8 b4)] = some (bl [b0, b1, b2, b3, b4]).toArray := by
  have : (Array.range (5 * 1)) = #[0, 1, 2, 3, 4] := by decide
  rw [this]
  simp [Instr.fill, u8, Value.cells, bl]
theorem fillB7 (b0 b1 b2 b3 b4 b5 b6 : UInt8) : Instr.fill (fun i => some (i * 1, 1)) ((Array.range (7 * 1)).map fun x => [Value.int .u8 0][x % [Value.int .u8 0].length]?.getD default) [(0, u8 b0), (1, u8 b1), (2, u8 b2), (3, u8 b3), (4, u8 b4), (5, u8 b5), (6, u8 b6)] = some (bl [b0, b1, b2, b3, b4, b5, b6]).toArray := by
  have : (Array.range (7 * 1)) = #[0, 1, 2, 3, 4, 5, 6] := by decide
  rw [this]
  simp [Instr.fill, u8, Value.cells, bl]
theorem fillB11 (b0 b1 b2 b3 b4 b5 b6 b7 b8 b9 b10 : UInt8) : Instr.fill (fun i => some (i * 1, 1)) ((Array.range (11 * 1)).map fun x => [Value.int .u8 0][x % [Value.int .u8 0].length]?.getD default) [(0, u8 b0), (1, u8 b1), (2, u8 b2), (3, u8 b3), (4, u8 b4), (5, u8 b5), (6, u8 b6), (7, u8 b7), (8, u8 b8), (9, u8 b9), (10, u8 b10)] = some (bl [b0, b1, b2, b3, b4, b5, b6, b7, b8, b9, b10]).toArray := by
  have : (Array.range (11 * 1)) = #[0, 1, 2, 3, 4, 5, 6, 7, 8, 9, 10] := by decide
  rw [this]
  simp [Instr.fill, u8, Value.cells, bl]
theorem D_buildB {t len : Nat} {parts : Array (Nat × Operand)} {vs : List (Nat × Value)} {b : List UInt8} (ht : P.underlying t = some (.slice 5)) (hs : ∀ w, (sizeOf 5).run P w = .ok 1 w) (hz : ∀ w, (zeroValue 5).run P w = .ok (.int .u8 0) w)
    (hv : parts.toList.map (fun p => (p.1, ov n f p.2)) = vs) (hf : Instr.fill (fun i => some (i * 1, 1)) ((Array.range (len * 1)).map fun x => [Value.int .u8 0][x % [Value.int .u8 0].length]?.getD default) vs = some (bl b).toArray) (hl : b.length = len) (h0 : Nat.blt 0 len = true) (h1 : Nat.ble len 1000 = true)
    (h : ∀ v' w', OwnB w' w.heap.size v' b → Ext w w' → K (E n (upo f d v')) w') : wpO P ops Q ⟨d, .buildSlice t len parts, ty, pos, aft, none⟩ K (E n f) w :=
  D_buildSlice (sz := 1) (z := [.int .u8 0]) ht hs (fun w => ⟨_, hz w, rfl⟩) (by have := Nat.le_of_ble_eq_true h0; omega) (by have := Nat.le_of_ble_eq_true h1; omega) hv hf (by simp [bl, hl]) fun v' w' ho he => h v' w' (OwnB.of ho hl.symm rfl) he
theorem D_makeN {t : TypeId} {x y : Operand} {kl kc : IntKind} {l c : Nat} (hI : ElT P 5 1 1) (hz5 : ∀ i z, P.info? 5 = some i → i.zero = some z → z = .int .u8 0) (ht : P.underlying t = some (.slice 5)) (hx : ov n f x = .int kl (l : Int)) (hy : ov n f y = .int kc (c : Int)) (hlc : l ≤ c) (hc : c ≤ 140737488355328)
    (h : ∀ v' w', OwnB w' w.heap.size v' (List.replicate l 0) → Ext w w' → K (E n (upo f d v')) w') : wpO P ops Q ⟨d, .makeSlice t x y, ty, pos, aft, none⟩ K (E n f) w := by
  obtain ⟨i, z, hi, hz, h1, h2, h3⟩ := hI
  have hzz := hz5 i z hi hz
  refine D_make hi hz h1 h2 h3 ht hx hy hlc (by omega) (by omega) fun v' w' ho he _ => h v' w' (OwnB.of ho (by simp) ?_) he
  subst hzz
  apply List.ext_getElem
  · simp [madeCells, bl]; omega
  · intro j h4 h5
    simp [madeCells, bl, u8, Value.cells, Nat.mod_one]
theorem run_copyCells {P : Program} {w : World} {g o dn dc m : Nat} {l : List Value} {T tT tS e : TypeId} {u : Value} {cs : List Value} {ty' : TypeId} (ht : P.underlying tT = some (.slice e)) (hs : ∀ w, (sizeOf e).run P w = .ok 1 w) (hb : Blk w g l T) (hdn : o + dn ≤ l.length) (hu : Rs w u m 1 cs) (hp : cs.all plainV = true) :
    ∃ w', (Builtin.copy_ #[tT, tS] ty' #[.slice (some ⟨g, o, none⟩) dn dc, u]).run P w = .ok (goInt (Nat.min m dn)) w' ∧ Kp g w w' ∧ Blk w' g (l.take o ++ cs.take (Nat.min m dn) ++ l.drop (o + Nat.min m dn)) T := by
  obtain ⟨hl, A, c, rfl, hmc, _, hA, hcell⟩ := hu
  have hq : Nat.min m dn ≤ m := Nat.min_le_left _ _
  have hq2 : Nat.min m dn ≤ dn := Nat.min_le_right _ _
  have hlen : (cs.take (Nat.min m dn)).length = Nat.min m dn := by rw [List.length_take, hl]; omega
  have hfirst : (Builtin.firstCells 1 (Nat.min m dn) (.slice A m c)).run P w = .ok (cs.take (Nat.min m dn)).toArray w := by
    cases A with
    | none =>
      have h0 := hA rfl
      have : Nat.min m dn = 0 := by omega
      simp [Builtin.firstCells, this]
    | some a =>
      have := run_loadCells_list (P := P) (w := w) a (cs.take (Nat.min m dn)) (fun j v hj => by
        rw [List.getElem?_take] at hj
        split at hj
        · obtain ⟨ad, had, hc⟩ := hcell j v hj
          cases had
          exact hc
        · cases hj)
      rw [hlen] at this
      simpa [Builtin.firstCells] using this
  obtain ⟨w', h1, h2, h3⟩ := run_storeCells (P := P) (o := o) (cs.take (Nat.min m dn)) w l 0 hb (by rw [List.all_eq_true] at hp ⊢; exact fun x hx => hp x (List.mem_of_mem_take hx)) (by rw [hlen]; omega)
  refine ⟨w', ?_, h2, by simpa [hlen] using h3⟩
  simp only [Builtin.copy_, Array.getElem?_toList, List.getElem?_toArray, List.getElem?_cons_zero, List.getElem?_cons_succ, Sem.run_bind, run_underlying ht, Result.andThen_ok, Builtin.lenOf, Sem.run_pure, hs, hfirst, h1]
theorem D_copyBlk {tT tS e T : TypeId} {x y : Operand} {g o dn dc m : Nat} {l cs l' : List Value} {u : Value} (ht : P.underlying tT = some (.slice e)) (hs : ∀ w, (sizeOf e).run P w = .ok 1 w) (hx : ov n f x = .slice (some ⟨g, o, none⟩) dn dc) (hy : ov n f y = u) (hb : Blk w g l T) (hdn : Nat.ble (o + dn) l.length = true) (hu : Rs w u m 1 cs) (hp : cs.all plainV = true)
    (hl' : l.take o ++ cs.take (Nat.min m dn) ++ l.drop (o + Nat.min m dn) = l') (h : ∀ w', Kp g w w' → Blk w' g l' T → K (E n (upo f d (goInt (Nat.min m dn)))) w') :
    wpO P ops Q ⟨d, .call ⟨.builtin .copy, #[x, y], #[tT, tS]⟩, ty, pos, aft, none⟩ K (E n f) w := by
  subst hl'
  obtain ⟨w', h1, h2, h3⟩ := run_copyCells (P := P) (tS := tS) (dc := dc) (ty' := ty) ht hs hb (Nat.le_of_ble_eq_true hdn) hu hp
  refine D_v (v := goInt (Nat.min m dn)) (w' := w') ?_ (h w' h2 h3)
  simp only [execOp, resolve, invoke, builtin, Sem.run_bind, Sem.run_pure, Result.andThen_ok, List.map_toArray, List.map_cons, List.map_nil, hx, hy, h1]
theorem D_copyOwnB {tT tS : TypeId} {lo : Nat} {x y : Operand} {v u : Value} {xs bs : List UInt8} (ht : P.underlying tT = some (.slice 5)) (hs : ∀ w, (sizeOf 5).run P w = .ok 1 w) (hx : ov n f x = v) (hy : ov n f y = u) (ho : OwnB w lo v xs) (hu : Bs w u bs) (hlen : bs.length = xs.length)
    (h : ∀ r w', OwnB w' lo v bs → w.grownBy w' v.ownBlock → K (E n (upo f d r)) w') :
    wpO P ops Q ⟨d, .call ⟨.builtin .copy, #[x, y], #[tT, tS]⟩, ty, pos, aft, none⟩ K (E n f) w := by
  obtain ⟨hl, ⟨rfl, h0⟩ | ⟨g, cap, cur, rfl, hg, hb, h1, h2, h3, h4⟩⟩ := ho
  · have hbs : bs = [] := List.eq_nil_of_length_eq_zero (by omega)
    have hxs : xs = [] := List.eq_nil_of_length_eq_zero h0
    subst hbs hxs
    obtain ⟨_, A, c, rfl, _⟩ := hu
    refine D_v (v := goInt 0) (w' := w) ?_ (h _ w (OwnB.nil w lo) ⟨rfl, rfl, rfl, Nat.le_refl _, fun _ _ _ => rfl⟩)
    simp only [execOp, resolve, invoke, builtin, Sem.run_bind, Sem.run_pure, Result.andThen_ok, List.map_toArray, List.map_cons, List.map_nil, hx, hy]
    have hz : Nat.min ([] : List UInt8).length ([] : List UInt8).length = 0 := rfl
    cases A <;> simp [Builtin.copy_, run_underlying ht, Builtin.lenOf, hs, Builtin.firstCells, loadCells, loadCellsFrom]
  · have hB : Blk w g cur.toList 5 := by simpa [Blk] using hb
    refine D_copyBlk (dn := xs.length) ht hs hx hy hB (Nat.ble_eq_true_of_le (by simp [h3]; omega)) hu (bl_plain _) rfl fun w' k b => h _ w' ?_ ⟨k.os, k.tape, k.output, Nat.le_of_eq k.size.symm, fun j _ hj => k.block j (fun e => hj (by subst e; rfl))⟩
    have hq : Nat.min bs.length xs.length = xs.length := by rw [hlen]; exact Nat.min_self _
    rw [hq] at b
    have hb' : w'.heap[g]? = _ := b
    refine ⟨by simp [bl], .inr ⟨g, cap, _, by rw [hlen], hg, hb', by omega, h2, ?_, ?_⟩⟩
    · simp [bl_len, hlen, h3]; omega
    · simp [bl_len, hlen, List.take_of_length_le (show (bl bs).length ≤ xs.length by rw [bl_len, hlen]; exact Nat.le_refl _)]
theorem D_build0 {t : TypeId} (ht : P.underlying t = some (.slice 5)) (hs : ∀ w, (sizeOf 5).run P w = .ok 1 w)
    (h : ∀ v' w', OwnB w' w.heap.size v' [] → Ext w w' → K (E n (upo f d v')) w') : wpO P ops Q ⟨d, .buildSlice t 0 #[], ty, pos, aft, none⟩ K (E n f) w := by
  refine D_v (v := .slice (some ⟨w.heap.size, 0, none⟩) 0 0) (w' := w.alloc (.cells #[] 5)) ?_ ?_
  · simp [go_sem, Instr.buildSlice, run_underlying ht, hs, Instr.fill]
  · refine h _ _ ⟨rfl, .inr ⟨w.heap.size, 0, _, rfl, Nat.le_refl _, heap_alloc_new w _, Nat.le_refl _, by simp [maxLen], rfl, rfl⟩⟩ (Ext.alloc _ _)
theorem run_loadVarA {T T' : TypeId} {g o s : Nat} {l c : List Value} (ha : ∀ w, (isAgg T).run P w = .ok true w) (hs : ∀ w, (sizeOf T).run P w = .ok s w) (hb : Blk w g l T') (hc : (l.drop o).take s = c) (hl : Nat.ble (o + s) l.length = true) :
    (loadVar T ⟨g, o, none⟩).run P w = .ok (.agg c.toArray) w := by
  have := R_loadA (P := P) (ρ := fun _ => .pointer (some ⟨g, o, none⟩)) (dst := none) (ty := 0) (pos := "") (aft := #[]) (gd := none) (x := .tmp 0) ha hs hb rfl hc hl
  simp only [execOp, Sem.run_bind, Instr.loadAt, Instr.sureAddr] at this
  generalize hX : (loadVar T ⟨g, o, none⟩).run P w = X at this ⊢
  cases X with
  | ok a w' => simp [hX] at this; obtain ⟨rfl, rfl⟩ := this; rfl
  | halt h w' => simp [hX, Result.andThen] at this
end
section
variable {P : Program} {fn : Func} {R : Ending → World → Prop} {n : Nat} {f : Nat → Value} {w : World}
theorem ret0 (hr : fn.results = #[]) (h : R (.returned (.tuple #[])) w) : bodyPost P fn R .ret (E n f) w := bodyPost_ret (results_none hr _ _ _) rfl h
theorem ret0n (hr : fn.results = #[]) (h : R (.returned (.tuple #[])) w) : bodyPost P fn R .normal (E n f) w := bodyPost_end (results_none hr _ _ _) rfl h
theorem retc {p : Tmp} {T T' : TypeId} {g o s : Nat} {l c : List Value} (hr : fn.results = #[.cell p T]) (hp : ov n f (.tmp p) = .pointer (some ⟨g, o, none⟩)) (ha : ∀ w, (isAgg T).run P w = .ok true w) (hs : ∀ w, (sizeOf T).run P w = .ok s w) (hb : Blk w g l T') (hc : (l.drop o).take s = c) (hl : Nat.ble (o + s) l.length = true)
    (h : R (.returned (.agg c.toArray)) w) : bodyPost P fn R .ret (E n f) w := by
  refine bodyPost_ret (v := .agg c.toArray) ?_ rfl h
  have := run_loadVarA ha hs hb hc hl
  have hg : (E n f).tmps[p]?.getD undef = .pointer (some ⟨g, o, none⟩) := by
    have hg := E_getD n f p
    simp only [ov] at hp
    rw [hp] at hg
    simpa using hg
  simp [results, hr, hg, asAddr, this]
theorem retct {p t : Tmp} {T T' : TypeId} {g o s : Nat} {l c : List Value} {v2 : Value} (hr : fn.results = #[.cell p T, .tmp t]) (hp : ov n f (.tmp p) = .pointer (some ⟨g, o, none⟩)) (ht : ov n f (.tmp t) = v2) (ha : ∀ w, (isAgg T).run P w = .ok true w) (hs : ∀ w, (sizeOf T).run P w = .ok s w) (hb : Blk w g l T') (hc : (l.drop o).take s = c) (hl : Nat.ble (o + s) l.length = true)
    (h : R (.returned (.tuple #[.agg c.toArray, v2])) w) : bodyPost P fn R .ret (E n f) w := by
  refine bodyPost_ret (v := .tuple #[.agg c.toArray, v2]) ?_ rfl h
  have := run_loadVarA ha hs hb hc hl
  have hg : (E n f).tmps[p]?.getD undef = .pointer (some ⟨g, o, none⟩) := by
    have hg := E_getD n f p
    simp only [ov] at hp
    rw [hp] at hg
    simpa using hg
  have hg2 : (E n f).tmps[t]?.getD undef = v2 := by
    have hg := E_getD n f t
    simp only [ov] at ht
    rw [ht] at hg
    simpa using hg
  simp [results, hr, hg, hg2, asAddr, this]
end
section
variable {P : Program} {ρ : Operand → Value} {w : World} {dst : Option Tmp} {ty : TypeId} {pos : String} {aft : Array Edge} {gd : Option (Nat × Bool)}
theorem R_nilCheck {x : Operand} {a : Addr} (hx : ρ x = .pointer (some a)) : (execOp ρ ⟨dst, .nilCheck x, ty, pos, aft, gd⟩).run P w = .ok (.value (.pointer (some a))) w := by
  simp [go_sem, hx]
theorem R_maxC {x y : Operand} {k k' : IntKind} {m j z : Int} {ts : Array TypeId} (hx : ρ x = .int k m) (hy : ρ y = .int k' j) (hz : (if j > m then j else m) = z) : (execOp ρ ⟨dst, .call ⟨.builtin .max, #[x, y], ts⟩, ty, pos, aft, gd⟩).run P w = .ok (.value (.int k z)) w := by
  subst hz; simp [go_sem, hx, hy, run_max_int2]
theorem R_minC {x y : Operand} {k k' : IntKind} {m j z : Int} {ts : Array TypeId} (hx : ρ x = .int k m) (hy : ρ y = .int k' j) (hz : (if j < m then j else m) = z) : (execOp ρ ⟨dst, .call ⟨.builtin .min, #[x, y], ts⟩, ty, pos, aft, gd⟩).run P w = .ok (.value (.int k z)) w := by
  subst hz; simp [go_sem, hx, hy, run_min_int2]
theorem R_shrC {t t' : TypeId} {x y : Operand} {k k' : IntKind} {m j : Int} {z : Nat} (hx : ρ x = .int k m) (hy : ρ y = .int k' j) (hj : 0 ≤ j) (hz : min j.toNat k.bits = z) : (execOp ρ ⟨dst, .binOp .shr t x y t', ty, pos, aft, gd⟩).run P w = .ok (.value (.int k (m / 2 ^ z))) w := by
  subst hz; exact R_shr hx hy hj
theorem R_shlC {t t' : TypeId} {x y : Operand} {k k' : IntKind} {m j : Int} {z : Nat} (hx : ρ x = .int k m) (hy : ρ y = .int k' j) (hj : 0 ≤ j) (hz : min j.toNat k.bits = z) : (execOp ρ ⟨dst, .binOp .shl t x y t', ty, pos, aft, gd⟩).run P w = .ok (.value (.int k (k.wrap (m * 2 ^ z)))) w := by
  subst hz; exact R_shl hx hy hj
theorem R_addN {t t' : TypeId} {x y : Operand} {m j : Nat} (hx : ρ x = .int .i64 (m : Int)) (hy : ρ y = .int .i64 (j : Int)) (hb : m + j ≤ 9223372036854775807) : (execOp ρ ⟨dst, .binOp .add t x y t', ty, pos, aft, gd⟩).run P w = .ok (.value (.int .i64 ((m + j : Nat) : Int))) w :=
  R_cast (R_addI hx hy) (congrArg (Value.int .i64) (by rw [IntKind.wrap_i64]; omega))
theorem R_subN {t t' : TypeId} {x y : Operand} {m j : Nat} (hx : ρ x = .int .i64 (m : Int)) (hy : ρ y = .int .i64 (j : Int)) (hj : j ≤ m) (hb : m ≤ 9223372036854775807) : (execOp ρ ⟨dst, .binOp .sub t x y t', ty, pos, aft, gd⟩).run P w = .ok (.value (.int .i64 ((m - j : Nat) : Int))) w :=
  R_cast (R_subI hx hy) (congrArg (Value.int .i64) (by rw [IntKind.wrap_i64]; omega))
theorem R_mulN {t t' : TypeId} {x y : Operand} {m j : Nat} (hx : ρ x = .int .i64 (m : Int)) (hy : ρ y = .int .i64 (j : Int)) (hb : m * j ≤ 9223372036854775807) : (execOp ρ ⟨dst, .binOp .mul t x y t', ty, pos, aft, gd⟩).run P w = .ok (.value (.int .i64 ((m * j : Nat) : Int))) w :=
  R_cast (R_mulI hx hy) (congrArg (Value.int .i64) (by rw [IntKind.wrap_i64]; rw [← Int.natCast_mul]; omega))
end
end Go.Proofs.YteeopgpgbdhmhaaGreat
namespace Go.Proofs.YteeopgpgbdhmhaaGreat
open Go.RowKit
set_option linter.unusedSimpArgs false
theorem run_part1 {P : Program} {e : TypeId} (hs : ∀ w, (sizeOf e).run P w = .ok 1 w) (ha : ∀ w, (isAgg e).run P w = .ok false w) (l : List Value) (i : Nat) (v : Value) (hv : l[i]? = some v) (w : World) : (part e l.toArray i).run P w = .ok v w := by
  simp [go_sem, hs, ha, hv]
theorem eqArr {P : Program} {d : Nat} {t e : TypeId} {k : IntKind} {len : Nat} (ht : P.underlying t = some (.array len e)) (hs : ∀ w, (sizeOf e).run P w = .ok 1 w) (ha : ∀ w, (isAgg e).run P w = .ok false w) (he : P.underlying e = some (.int k))
   (xs ys : List Int) (hx : xs.length = len) (hy : ys.length = len) (w : World) : (Op.equalIn (d + 2) t (.agg (xs.map (Value.int k)).toArray) (.agg (ys.map (Value.int k)).toArray)).run P w = .ok (decide (xs = ys)) w := by
  rw [Op.equalIn]
  simp only [Sem.run_bind, run_underlying ht, Result.andThen_ok, hs, Nat.mul_one, Std.Legacy.Range.forIn_eq_forIn_range', Std.Legacy.Range.size]
  have key : ∀ m i, i + m = len → ∀ F : Nat → Option Bool × PUnit → Sem (ForInStep (Option Bool × PUnit)),
      (∀ j s, j < len → (F j s).run P w = .ok (if xs[j]? = ys[j]? then .yield (none, ()) else .done (some false, ())) w) →
      (forIn (List.range' i m) ((none, ()) : Option Bool × PUnit) F).run P w = .ok (if xs.drop i = ys.drop i then (none, ()) else (some false, ())) w := by
    intro m
    induction m with
    | zero =>
      intro i hi F hF
      rw [List.drop_of_length_le (by omega), List.drop_of_length_le (by omega)]
      simp
    | succ m ih =>
      intro i hi F hF
      have hx' : i < xs.length := by omega
      have hy' : i < ys.length := by omega
      simp only [List.range'_succ, List.forIn_cons, Sem.run_bind, hF i _ (by omega), Result.andThen_ok]
      rw [List.drop_eq_getElem_cons hx', List.drop_eq_getElem_cons hy', List.getElem?_eq_getElem hx', List.getElem?_eq_getElem hy']
      by_cases h : xs[i] = ys[i]
      · simp only [h, if_true, ih (i + 1) (by omega) F hF, List.cons.injEq, true_and]
      · rw [if_neg (by simpa using h), if_neg (by intro e; injection e with e _; exact h e)]
        simp
  rw [show (len - 0 + 1 - 1) / 1 = len by omega, key len 0 (by omega) _ ?_]
  · simp only [List.drop_zero]
    by_cases h : xs = ys <;> simp [h]
  · intro j s hj
    have hx' : j < xs.length := by omega
    have hy' : j < ys.length := by omega
    simp only [Sem.run_bind, run_part1 hs ha (xs.map (Value.int k)) j (.int k xs[j]) (by simp [hx']) w, run_part1 hs ha (ys.map (Value.int k)) j (.int k ys[j]) (by simp [hy']) w, Result.andThen_ok, run_equalIn_int w d e k k _ _ he]
    rw [List.getElem?_eq_getElem hx', List.getElem?_eq_getElem hy']
    by_cases h : xs[j] = ys[j] <;> simp [h]
structure Nm where
  (b0 b1 b2 b3 b4 b5 b6 b7 : UInt8)
  deriving DecidableEq
def Nm.l (n : Nm) : List Value := [u8 n.b0, u8 n.b1, u8 n.b2, u8 n.b3, u8 n.b4, u8 n.b5, u8 n.b6, u8 n.b7]
def Nm.v (n : Nm) : Value := .agg n.l.toArray
def Nm.zero : Nm := ⟨0, 0, 0, 0, 0, 0, 0, 0⟩
structure Vt where
  (kind slot round choice signer support : Int)
  (parent value : Nm)
  deriving DecidableEq
def i64 (n : Int) : Value := .int .i64 n
def Vt.l (v : Vt) : List Value := [i64 v.kind, i64 v.slot, i64 v.round, i64 v.choice, i64 v.signer, i64 v.support,
  u8 v.parent.b0, u8 v.parent.b1, u8 v.parent.b2, u8 v.parent.b3, u8 v.parent.b4, u8 v.parent.b5, u8 v.parent.b6, u8 v.parent.b7,
  u8 v.value.b0, u8 v.value.b1, u8 v.value.b2, u8 v.value.b3, u8 v.value.b4, u8 v.value.b5, u8 v.value.b6, u8 v.value.b7]
def Vt.zero : Vt := ⟨0, 0, 0, 0, 0, 0, Nm.zero, Nm.zero⟩
def Vt.v (v : Vt) : Value := .agg v.l.toArray
def u8i (l : List UInt8) : List Int := l.map fun b => (b.toNat : Int)
theorem u8i_inj {a b : List UInt8} : u8i a = u8i b ↔ a = b := by
  constructor
  · intro h
    induction a generalizing b with
    | nil => cases b with
      | nil => rfl
      | cons y b => simp [u8i] at h
    | cons x a ih => cases b with
      | nil => simp [u8i] at h
      | cons y b =>
        simp only [u8i, List.map_cons, List.cons.injEq] at h
        rw [ih (b := b) h.2, UInt8.toNat_inj.1 (by omega : x.toNat = y.toNat)]
  · rintro rfl; rfl
def Nm.b (n : Nm) : List UInt8 := [n.b0, n.b1, n.b2, n.b3, n.b4, n.b5, n.b6, n.b7]
theorem Nm.b_inj {m n : Nm} : m.b = n.b ↔ m = n := by
  cases m; cases n; simp [Nm.b]
theorem eqA24 (d : Nat) (m n : Nm) (w : World) : (Op.equalIn (d + 2) 29 (.agg m.l.toArray) (.agg n.l.toArray)).run Tryz.prog w = .ok (decide (m = n)) w := by
  have := eqArr (d := d) (k := .u8) Tryz.underlying29 Tryz.sizeOf5 Tryz.isAgg5 Tryz.underlying5 (u8i m.b) (u8i n.b) rfl rfl w
  simp only [u8i_inj, Nm.b_inj] at this
  exact this
theorem eq24 (m n : Nm) (w : World) : (Op.equalIn 10000 29 (.agg m.l.toArray) (.agg n.l.toArray)).run Tryz.prog w = .ok (decide (m = n)) w := eqA24 9998 m n w
theorem run_partA {P : Program} {e : TypeId} {s : Nat} (hs : ∀ w, (sizeOf e).run P w = .ok s w) (ha : ∀ w, (isAgg e).run P w = .ok true w) (l c : List Value) (i : Nat) (hc : (l.drop i).take s = c) (hl : Nat.ble (i + s) l.length = true) (w : World) : (part e l.toArray i).run P w = .ok (.agg c.toArray) w := by
  have : i + s ≤ l.length := Nat.le_of_ble_eq_true hl
  have h2 : (l.take (i + s)).drop i = c := by rw [← hc, List.drop_take]; congr 1; omega
  simp [go_sem, hs, ha, part, this, h2, hc]
theorem eqF {P : Program} {d : Nat} {f : Field} {fs : List Field} {xs ys : Array Value} {u v : Value} {b c : Bool} {w : World} (hn : f.name ≠ "_") (hx : (part f.type xs f.offset).run P w = .ok u w) (hy : (part f.type ys f.offset).run P w = .ok v w)
    (he : (Op.equalIn d f.type u v).run P w = .ok b w) (ih : (Op.eqFields d xs ys fs).run P w = .ok c w) : (Op.eqFields d xs ys (f :: fs)).run P w = .ok (b && c) w := by
  simp only [Op.eqFields, if_pos hn, Sem.run_bind, hx, hy, he, Result.andThen_ok]
  cases b <;> simp [ih]
theorem eqFI {P : Program} {d : Nat} {f : Field} {fs : List Field} {l m : List Value} {k : IntKind} {i j : Int} {c : Bool} {w : World} (hn : f.name ≠ "_") (hs : ∀ w, (sizeOf f.type).run P w = .ok 1 w) (ha : ∀ w, (isAgg f.type).run P w = .ok false w) (ht : P.underlying f.type = some (.int k))
    (hx : l[f.offset]? = some (.int k i)) (hy : m[f.offset]? = some (.int k j)) (ih : (Op.eqFields (d + 1) l.toArray m.toArray fs).run P w = .ok c w) : (Op.eqFields (d + 1) l.toArray m.toArray (f :: fs)).run P w = .ok ((i == j) && c) w :=
  eqF hn (run_part1 hs ha l _ _ hx w) (run_part1 hs ha m _ _ hy w) (run_equalIn_int w d f.type k k i j ht) ih
theorem eqA26 (d : Nat) (m n : Vt) (w : World) : (Op.equalIn (d + 3) 31 (.agg m.l.toArray) (.agg n.l.toArray)).run Tryz.prog w = .ok (decide (m = n)) w := by
  rw [run_equalIn_struct w (d + 2) 31 _ _ (by kernel_rfl) Tryz.stoodInHeld31]
  have hf : (Tryz.prog.fieldsOf 31).toList = [⟨"Kind", 3, 0, false, "", "", 0⟩, ⟨"Slot", 3, 1, false, "", "", 8⟩, ⟨"Round", 3, 2, false, "", "", 16⟩, ⟨"Choice", 3, 3, false, "", "", 24⟩, ⟨"Signer", 3, 4, false, "", "", 32⟩, ⟨"Support", 27, 5, false, "", "", 40⟩, ⟨"Parent", 29, 6, false, "", "", 48⟩, ⟨"Value", 29, 14, false, "", "", 56⟩] := by kernel_rfl
  rw [hf]
  have h := eqFI (d := d + 1) (l := m.l) (m := n.l) (w := w) (f := ⟨"Kind", 3, 0, false, "", "", 0⟩) (by decide) Tryz.sizeOf3 Tryz.isAgg3 Tryz.underlying3 rfl rfl <|
    eqFI (f := ⟨"Slot", 3, 1, false, "", "", 8⟩) (by decide) Tryz.sizeOf3 Tryz.isAgg3 Tryz.underlying3 rfl rfl <|
    eqFI (f := ⟨"Round", 3, 2, false, "", "", 16⟩) (by decide) Tryz.sizeOf3 Tryz.isAgg3 Tryz.underlying3 rfl rfl <|
    eqFI (f := ⟨"Choice", 3, 3, false, "", "", 24⟩) (by decide) Tryz.sizeOf3 Tryz.isAgg3 Tryz.underlying3 rfl rfl <|
    eqFI (f := ⟨"Signer", 3, 4, false, "", "", 32⟩) (by decide) Tryz.sizeOf3 Tryz.isAgg3 Tryz.underlying3 rfl rfl <|
    eqFI (f := ⟨"Support", 27, 5, false, "", "", 40⟩) (by decide) Tryz.sizeOf27 Tryz.isAgg27 Tryz.underlying27 rfl rfl <|
    eqF (f := ⟨"Parent", 29, 6, false, "", "", 48⟩) (by decide) (run_partA Tryz.sizeOf29 Tryz.isAgg29 m.l m.parent.l 6 rfl rfl w) (run_partA Tryz.sizeOf29 Tryz.isAgg29 n.l n.parent.l 6 rfl rfl w) (eqA24 d _ _ w) <|
    eqF (f := ⟨"Value", 29, 14, false, "", "", 56⟩) (by decide) (run_partA Tryz.sizeOf29 Tryz.isAgg29 m.l m.value.l 14 rfl rfl w) (run_partA Tryz.sizeOf29 Tryz.isAgg29 n.l n.value.l 14 rfl rfl w) (eqA24 d _ _ w) <|
    (show (Op.eqFields (d + 2) _ _ []).run Tryz.prog w = .ok true w from by simp [Op.eqFields])
  refine h.trans (congrArg (fun b => Result.ok b w) ?_)
  rw [Bool.eq_iff_iff]
  rcases m with ⟨a1, a2, a3, a4, a5, a6, a7, a8⟩
  rcases n with ⟨b1, b2, b3, b4, b5, b6, b7, b8⟩
  simp only [Bool.and_eq_true, beq_iff_eq, decide_eq_true_eq, and_true, Vt.mk.injEq]
theorem eq26 (m n : Vt) (w : World) : (Op.equalIn 10000 31 (.agg m.l.toArray) (.agg n.l.toArray)).run Tryz.prog w = .ok (decide (m = n)) w := eqA26 9997 m n w
theorem places26 (w : World) : ((#[⟨"Kind", 3, 0, false, "", "", 0⟩, ⟨"Slot", 3, 1, false, "", "", 8⟩, ⟨"Round", 3, 2, false, "", "", 16⟩, ⟨"Choice", 3, 3, false, "", "", 24⟩, ⟨"Signer", 3, 4, false, "", "", 32⟩, ⟨"Support", 27, 5, false, "", "", 40⟩, ⟨"Parent", 29, 6, false, "", "", 48⟩, ⟨"Value", 29, 14, false, "", "", 56⟩] : Array Field).mapM fun (f : Field) => Prod.mk f.offset <$> sizeOf f.type).run Tryz.prog w = .ok #[(0, 1), (1, 1), (2, 1), (3, 1), (4, 1), (5, 1), (6, 8), (14, 8)] w := by
  simp [Tryz.sizeOf3, Tryz.sizeOf27, Tryz.sizeOf29, go_sem]
theorem fill92 (a b c d e : Int) : Instr.fill (fun i => some (i * 1, 1)) #[.int .i64 0, .int .i64 0, .int .i64 0, .int .i64 0, .int .i64 0] [(0, i64 a), (1, i64 b), (2, i64 c), (3, i64 d), (4, i64 e)] = some [i64 a, i64 b, i64 c, i64 d, i64 e].toArray := by
  simp [Instr.fill, i64, Value.cells]
theorem info5 : (Tryz.prog.info? 5).map (fun i => (i.zero, i.size, i.bytes)) = some (some (.int .u8 0), 1, 1) := by kernel_rfl
theorem elt5 : ElT Tryz.prog 5 1 1 := by
  obtain ⟨i0, hi, hz, hs, hb⟩ := info_parts info5
  exact ⟨i0, _, hi, hz, hs, hb, rfl⟩
theorem zero5 : ∀ i z, Tryz.prog.info? 5 = some i → i.zero = some z → z = .int .u8 0 := by
  intro i z h1 h2
  have := info5
  rw [h1] at this
  simp only [Option.map_some, h2, Option.some.injEq, Prod.mk.injEq] at this
  exact this.1
theorem R_convB {ρ : Operand → Value} {w : World} {dst : Option Tmp} {ty s : TypeId} {pos : String} {aft : Array Edge} {gd : Option (Nat × Bool)} {x : Operand} {k : IntKind} {m : Int} (hs : ∀ w, (underlying s).run Tryz.prog w = .ok (.int k) w) (hx : ρ x = .int k m) :
    (execOp ρ ⟨dst, .convert s 5 x, ty, pos, aft, gd⟩).run Tryz.prog w = .ok (.value (u8 (by8 m))) w := by
  refine R_cast (R_conv hs Tryz.runUnderlying5 hx) ?_
  simp only [u8, by8_toNat, IntKind.wrap_u8']
theorem R_convU {ρ : Operand → Value} {w : World} {dst : Option Tmp} {ty d : TypeId} {pos : String} {aft : Array Edge} {gd : Option (Nat × Bool)} {x : Operand} {k : IntKind} {b : UInt8} (hd : ∀ w, (underlying d).run Tryz.prog w = .ok (.int k) w) (hk : k = .i64 ∨ k = .u64) (hx : ρ x = u8 b) :
    (execOp ρ ⟨dst, .convert 5 d x, ty, pos, aft, gd⟩).run Tryz.prog w = .ok (.value (.int k (b.toNat : Int))) w := by
  refine R_cast (R_conv Tryz.runUnderlying5 hd hx) ?_
  have := b.toNat_lt
  rcases hk with rfl | rfl
  · exact congrArg (Value.int .i64) (by rw [IntKind.wrap_i64]; omega)
  · exact congrArg (Value.int .u64) (by rw [IntKind.wrap_u64]; omega)
theorem mixed : Tryz.prog.follows .mixedOrders = true := by kernel_rfl
end Go.Proofs.YteeopgpgbdhmhaaGreat
namespace Go.Proofs.YteeopgpgbdhmhaaGreat
open Go.ChangeShapes Go.WideShapes Go.ChangeAt Go.RowKit
set_option maxRecDepth 20000
set_option linter.constructorNameAsVariable false
theorem own : ownKnob Tryz.prog.godebug = none := by kernel_rfl
theorem laidOut : laidOutB Tryz.prog = true := by kernel_rfl
theorem cells3 : Tryz.prog.cellsOf 3 = 1 := by kernel_rfl
theorem cells5 : Tryz.prog.cellsOf 5 = 1 := by kernel_rfl
theorem cells22 : Tryz.prog.cellsOf 27 = 1 := by kernel_rfl
theorem cells24 : Tryz.prog.cellsOf 29 = 8 := by kernel_rfl
theorem cells26 : Tryz.prog.cellsOf 31 = 22 := by kernel_rfl
def inI (n : Int) : Prop := -9223372036854775808 ≤ n ∧ n ≤ 9223372036854775807
structure Vt.wf (v : Vt) : Prop where
  kind : inI v.kind
  slot : inI v.slot
  round : inI v.round
  choice : inI v.choice
  signer : inI v.signer
  support : inI v.support
section
variable {H : Type} {enc : TypeId × Value → H} {w : World} {base : Nat} {sp : Nat → Bool} {held : Bool} {fuel : Nat} {cs : List Value} {x : DataW H × List MemPlace}
theorem wf_u8 {n : Int} (h : (Lit.int .u8 n).wf = true) : ∃ b : UInt8, Value.int .u8 n = u8 b := by
  have hb := bounds_u8 h
  refine ⟨UInt8.ofNat n.toNat, ?_⟩
  simp only [u8, UInt8.toNat_ofNat']
  congr 1
  omega
theorem wf_i64 {n : Int} (h : (Lit.int .i64 n).wf = true) : inI n := by
  have hb := bounds_i64 h
  unfold inI; omega
theorem rd24 (h : DataW.trod enc Tryz.prog w base sp held fuel 29 cs = some x) : ∃ n : Nm, cs = n.l := by
  obtain ⟨xs, m, rfl, _, hlen, hxs, hi⟩ := DataW.trod_array Tryz.underlying29 h
  rw [cells24] at hlen
  have g : ∀ i, i < 8 → ∃ b : UInt8, cs[i]? = some (u8 b) := by
    intro i h8
    have h1 := hi i h8
    rw [cells5, Nat.mul_one] at h1
    have h2 : xs[i]? = some xs[i] := List.getElem?_eq_getElem (by omega)
    rw [h2] at h1
    obtain ⟨k, hk, _, hw⟩ := DataW.trod_int Tryz.underlying5 h1
    obtain ⟨b, hb⟩ := wf_u8 hw
    refine ⟨b, ?_⟩
    have : cs[i]? = ((cs.drop i).take 1)[0]? := by simp
    rw [this, hk, hb]; rfl
  obtain ⟨b0, h0⟩ := g 0 (by omega)
  obtain ⟨b1, h1⟩ := g 1 (by omega)
  obtain ⟨b2, h2⟩ := g 2 (by omega)
  obtain ⟨b3, h3⟩ := g 3 (by omega)
  obtain ⟨b4, h4⟩ := g 4 (by omega)
  obtain ⟨b5, h5⟩ := g 5 (by omega)
  obtain ⟨b6, h6⟩ := g 6 (by omega)
  obtain ⟨b7, h7⟩ := g 7 (by omega)
  refine ⟨⟨b0, b1, b2, b3, b4, b5, b6, b7⟩, ?_⟩
  match cs, hlen with
  | [c0, c1, c2, c3, c4, c5, c6, c7], _ =>
    simp at h0 h1 h2 h3 h4 h5 h6 h7
    subst h0 h1 h2 h3 h4 h5 h6 h7
    rfl
theorem rdI {t : TypeId} (ht : Tryz.prog.underlying t = some (.int .i64)) (h : DataW.trod enc Tryz.prog w base sp held fuel t cs = some x) : ∃ n : Int, cs = [i64 n] ∧ inI n := by
  obtain ⟨k, hk, _, hw⟩ := DataW.trod_int ht h
  exact ⟨k, hk, wf_i64 hw⟩
theorem rd26 (h : DataW.trod enc Tryz.prog w base sp held fuel 31 cs = some x) : ∃ v : Vt, cs = v.l ∧ v.wf := by
  obtain ⟨xs, m, rfl, _, hlen, hxs, hi⟩ := DataW.trod_struct Tryz.underlying31 h
  rw [cells26] at hlen
  have hx : ∀ i : Nat, i < 8 → xs[i]? = some (xs[i]?.getD x) := fun i h8 => by
    have : i < xs.length := by rw [hxs]; exact h8
    simp [this]
  have g0 : DataW.trod enc Tryz.prog w base sp held m 3 ((cs.drop 0).take (Tryz.prog.cellsOf 3)) = xs[0]? := hi 0 _ rfl
  have g1 : DataW.trod enc Tryz.prog w base sp held m 3 ((cs.drop 1).take (Tryz.prog.cellsOf 3)) = xs[1]? := hi 1 _ rfl
  have g2 : DataW.trod enc Tryz.prog w base sp held m 3 ((cs.drop 2).take (Tryz.prog.cellsOf 3)) = xs[2]? := hi 2 _ rfl
  have g3 : DataW.trod enc Tryz.prog w base sp held m 3 ((cs.drop 3).take (Tryz.prog.cellsOf 3)) = xs[3]? := hi 3 _ rfl
  have g4 : DataW.trod enc Tryz.prog w base sp held m 3 ((cs.drop 4).take (Tryz.prog.cellsOf 3)) = xs[4]? := hi 4 _ rfl
  have g5 : DataW.trod enc Tryz.prog w base sp held m 27 ((cs.drop 5).take (Tryz.prog.cellsOf 27)) = xs[5]? := hi 5 _ rfl
  have g6 : DataW.trod enc Tryz.prog w base sp held m 29 ((cs.drop 6).take (Tryz.prog.cellsOf 29)) = xs[6]? := hi 6 _ rfl
  have g7 : DataW.trod enc Tryz.prog w base sp held m 29 ((cs.drop 14).take (Tryz.prog.cellsOf 29)) = xs[7]? := hi 7 _ rfl
  rw [hx _ (by omega)] at g0 g1 g2 g3 g4 g5 g6 g7
  rw [cells3] at g0 g1 g2 g3 g4
  rw [cells22] at g5
  rw [cells24] at g6 g7
  obtain ⟨n0, e0, w0⟩ := rdI Tryz.underlying3 g0
  obtain ⟨n1, e1, w1⟩ := rdI Tryz.underlying3 g1
  obtain ⟨n2, e2, w2⟩ := rdI Tryz.underlying3 g2
  obtain ⟨n3, e3, w3⟩ := rdI Tryz.underlying3 g3
  obtain ⟨n4, e4, w4⟩ := rdI Tryz.underlying3 g4
  obtain ⟨n5, e5, w5⟩ := rdI Tryz.underlying27 g5
  obtain ⟨p, e6⟩ := rd24 g6
  obtain ⟨q, e7⟩ := rd24 g7
  refine ⟨⟨n0, n1, n2, n3, n4, n5, p, q⟩, ?_, ⟨w0, w1, w2, w3, w4, w5⟩⟩
  have split : cs = (cs.drop 0).take 1 ++ (cs.drop 1).take 1 ++ (cs.drop 2).take 1 ++ (cs.drop 3).take 1 ++ (cs.drop 4).take 1 ++ (cs.drop 5).take 1 ++ (cs.drop 6).take 8 ++ (cs.drop 14).take 8 := by
    match cs, hlen with
    | [c0, c1, c2, c3, c4, c5, c6, c7, c8, c9, c10, c11, c12, c13, c14, c15, c16, c17, c18, c19, c20, c21], _ => rfl
  rw [split, e0, e1, e2, e3, e4, e5, e6, e7]
  rfl
end
end Go.Proofs.YteeopgpgbdhmhaaGreat
namespace Go.Proofs.YteeopgpgbdhmhaaGreat
set_option maxRecDepth 100000
def headCodes : List Nat := [104, 97, 114, 110, 101, 115, 115, 32, 56, 55, 52, 52, 50, 99, 57, 51, 57, 52, 55, 97, 55, 51, 97, 53, 101, 54, 55, 54, 101, 51, 55, 51, 55, 50, 97, 101, 97, 98, 57, 50, 53, 101, 54, 55, 100, 52, 50, 57, 54, 48, 50, 97, 97, 50, 57, 101, 52, 49, 55, 55, 55, 51, 98, 48, 56, 97, 49, 52, 102, 56, 98, 55, 32, 99, 117, 116, 32, 97, 116, 32, 102, 111, 114, 107, 108, 101, 100, 103, 101, 114, 47, 102, 111, 114, 107, 108, 101, 100, 103, 101, 114, 108, 97, 119, 57, 46, 69, 118, 105, 100, 101, 110, 99, 101, 70, 105, 110, 100, 115, 32, 102, 111, 114, 107, 108, 101, 100, 103, 101, 114, 47, 102, 111, 114, 107, 108, 101, 100, 103, 101, 114, 108, 97, 119, 56, 46, 83, 105, 103, 110, 101, 100, 86, 101, 114, 105, 102, 105, 101, 115, 32, 102, 111, 114, 107, 108, 101, 100, 103, 101, 114, 47, 102, 111, 114, 107, 108, 101, 100, 103, 101, 114, 108, 97, 119, 57, 46, 69, 118, 105, 100, 101, 110, 99, 101, 86, 97, 108, 105, 100]
theorem head_lit : Tryz.prog.initOrder = "harness 87442c93947a73a5e676e37372aeab925e67d429602aa29e417773b08a14f8b7 cut at forkledger/forkledgerlaw9.EvidenceFinds forkledger/forkledgerlaw8.SignedVerifies forkledger/forkledgerlaw9.EvidenceValid" := by kernel_rfl
theorem head_str : "harness 87442c93947a73a5e676e37372aeab925e67d429602aa29e417773b08a14f8b7 cut at forkledger/forkledgerlaw9.EvidenceFinds forkledger/forkledgerlaw8.SignedVerifies forkledger/forkledgerlaw9.EvidenceValid" = String.ofList (headCodes.map Char.ofNat) := by kernel_rfl
theorem head_eq : Tryz.prog.initOrder = String.ofList (headCodes.map Char.ofNat) := head_lit.trans head_str
theorem head_list : Tryz.prog.initOrder.toList = headCodes.map Char.ofNat := by rw [head_eq]; exact String.toList_ofList
def cutW : List Char := [99, 117, 116].map Char.ofNat
def restW : List (List Char) := (behindMainWord (wordsSigns (headCodes.map Char.ofNat))).tail
theorem head_words : behindMainWord (wordsSigns Tryz.prog.initOrder.toList) = cutW :: restW := by
  rw [head_list]
  kernel_rfl
theorem strip_cut (R : List (List Char)) : stripLifts liftWords (cutW :: R) = ([], cutW :: R) := by kernel_rfl
theorem mayEnter_of (P : Program) (R : List (List Char)) (h : behindMainWord (wordsSigns P.initOrder.toList) = cutW :: R) (h1 : P.laysLater = false) (h2 : P.bearsReflect = false) (h3 : P.doorFits [] = true) : P.mayEnter = true := by
  unfold Program.mayEnter
  rw [h]
  simp only [strip_cut, h1, h2, h3]
  kernel_rfl
theorem liftsFinal_of (P : Program) (R : List (List Char)) (h : behindMainWord (wordsSigns P.initOrder.toList) = cutW :: R) : P.liftsFinal = false := by
  unfold Program.liftsFinal Program.headLifts
  rw [h, strip_cut]
  kernel_rfl
theorem make_of (P : Program) (R : List (List Char)) (h : behindMainWord (wordsSigns P.initOrder.toList) = cutW :: R) : P.make = some Make.cut := by
  unfold Program.make
  rw [h]
  kernel_rfl
theorem fact_mayEnter : Tryz.prog.mayEnter = true := mayEnter_of _ _ head_words (by kernel_rfl) (by kernel_rfl) (by kernel_rfl)
theorem fact_liftsFinal : (false == Tryz.prog.liftsFinal) = true := by rw [liftsFinal_of _ _ head_words]; rfl
theorem fact_make : (Tryz.prog.make == some Make.cut) = true := by rw [make_of _ _ head_words]; rfl
theorem fact_laidOut : laidOutB Tryz.prog = true := by kernel_rfl
theorem fact_mapsRowed : mapsRowed Tryz.prog = true := by kernel_rfl
theorem fact_stops : (Tryz.prog.stops == []) = true := by kernel_rfl
theorem fact_knobs : (Tryz.prog.stopKnobs == []) = true := by kernel_rfl
theorem fact_heard : Tryz.prog.stopsHeard = true := by kernel_rfl
theorem fact_plainKeys : (false == Tryz.prog.plainKeys) = true := by kernel_rfl
theorem and2 {a b : Bool} (ha : a = true) (hb : b = true) : (a && b) = true := by rw [ha, hb]; rfl
theorem joined_of (P : Program) (f : FuncId) (fn : Func) (s : ChangeSpec) (c : OpenClaim) (h0 : (c.wf (OpenSpec.ofChange s)) = true) (h1 : (laidOutB P) = true) (h2 : (mapsRowed P) = true) (h3 : (fn.params.all (P.readableRec ·)) = true) (h4 : (namedTie P c.named s.vars) = true) (h5 : ((c.stops == [])) = true) (h6 : ((P.stops == [])) = true) (h7 : ((c.knobs == [])) = true) (h8 : ((P.stopKnobs == [])) = true) (h9 : ((c.inPlace == P.inPlace f)) = true) (h10 : ((c.unfollowed == P.unfollowed f)) = true) (h11 : ((c.recurses == P.recurses f)) = true) (h12 : ((c.named == P.varsNamed f)) = true) (h13 : ((c.maps == (fn.params.toList ++ s.plain.varTypes P).any (P.mapsRec ·))) = true) (h14 : ((c.ifaces == (fn.params.toList ++ s.plain.varTypes P).any (P.ifacesRec ·))) = true) (h15 : ((c.mapsOut == P.mapsAmong fn.resultTypes.toList)) = true) (h16 : ((c.loops == (fn.params.toList ++ s.plain.varTypes P).any (P.loopsFrom ·))) = true) (h17 : ((c.wideKeys == (fn.params.toList ++ s.plain.varTypes P ++ fn.resultTypes.toList).any (P.wideKeysFrom ·))) = true) (h18 : (s.vars.all (P.varReadable ·)) = true) (h19 : (fn.resultTypes.all (fun t => P.readableRec t && decide (t < P.types.size))) = true) (h20 : ((c.ifacesOut == fn.resultTypes.toList.any (P.ifacesRec ·))) = true) (h21 : ((c.loopsOut == fn.resultTypes.toList.any (P.loopsFrom ·))) = true) (h22 : ((c.plainKeys == P.plainKeys)) = true) (h23 : (c.shortTexts.isNone) = true) (h24 : (P.stopsHeard) = true) (h25 : (P.mayEnter) = true) (h26 : ((c.lifted == P.liftsFinal)) = true) (h27 : ((P.make == some c.make)) = true) (h28 : ((c.kinds == (if c.domain.isEmpty then [] else fn.params.toList.map fun t => match P.underlying t with | some (.int k) => some k | _ => none))) = true) (h29 : ((c.pinned == c.pinnedBy)) = true) (h30 : ((c.veiled == (fn.params.toList ++ s.plain.varTypes P ++ fn.resultTypes.toList).any (P.veiledRec ·))) = true) (h31 : (c.veiledFits P fn.params.toList (fn.params.toList ++ s.plain.varTypes P ++ fn.resultTypes.toList)) = true) : joinedFacts P f fn s c = true := by
  unfold joinedFacts
  exact and2 (and2 (and2 (and2 (and2 (and2 (and2 (and2 (and2 (and2 (and2 (and2 (and2 (and2 (and2 (and2 (and2 (and2 (and2 (and2 (and2 (and2 (and2 (and2 (and2 (and2 (and2 (and2 (and2 (and2 (and2 (h0) h1) h2) h3) h4) h5) h6) h7) h8) h9) h10) h11) h12) h13) h14) h15) h16) h17) h18) h19) h20) h21) h22) h23) h24) h25) h26) h27) h28) h29) h30) h31
end Go.Proofs.YteeopgpgbdhmhaaGreat
namespace Go.Proofs.YteeopgpgbdhmhaaGreat
open Go.RowKit
def between (n lo hi : Int) : Bool := decide (lo ≤ n) && decide (n ≤ hi)
def sameKey (a b : Vt) : Bool := (a.kind == b.kind) && decide (a.parent = b.parent) && (a.slot == b.slot) && (a.round == b.round) && (a.signer == b.signer)
def sh8 (v : Int) (b : UInt8) : Int := bits .or .u64 (IntKind.wrap .u64 (v * 2 ^ min (8 : Int).toNat IntKind.u64.bits)) (IntKind.wrap .u64 (b.toNat : Int))
def num (n : Nm) : Int := sh8 (sh8 (sh8 (sh8 (sh8 (sh8 (sh8 (sh8 0 n.b0) n.b1) n.b2) n.b3) n.b4) n.b5) n.b6) n.b7
def hless (a b : Nm) : Bool := !decide (a = b) && decide (num a < num b)
def valid (v : Vt) : Bool :=
  between v.kind 1 7 && between v.signer 0 9 && ((v.choice == 1) != decide (v.value = Nm.zero)) && (bits .andNot .i64 v.support 1023 == 0) &&
  (if v.kind ≤ 2 then between v.slot 0 9 && (v.round == 0) && (v.support == 0) && (v.choice == 1)
  else if v.kind = 3 then between v.slot 0 9 && between v.round 1 12 && between v.choice 0 1 && (v.round != 1 || v.choice != 0 || v.support == 0)
  else if v.kind = 4 then between v.slot 0 9 && between v.round 1 12 && between v.choice 0 2
  else (v.slot == 0) && (v.round == 0) && (v.support == 0) && (v.choice == 1))
def conflict (a b : Vt) : Bool := !decide (a = b) && sameKey a b && valid a && valid b
def lessV (a b : Vt) : Bool :=
  if a.parent ≠ b.parent then hless a.parent b.parent
  else if a.slot ≠ b.slot then decide (a.slot < b.slot)
  else if a.round ≠ b.round then decide (a.round < b.round)
  else if a.kind ≠ b.kind then decide (a.kind < b.kind)
  else if a.signer ≠ b.signer then decide (a.signer < b.signer)
  else if a.choice ≠ b.choice then decide (a.choice < b.choice)
  else if a.value ≠ b.value then hless a.value b.value
  else decide (a.support < b.support)
theorem sh8_eq {v : Nat} (b : UInt8) (hv : v < 2 ^ 56) : sh8 (v : Int) b = ((v * 256 + b.toNat : Nat) : Int) := by
  have hb := b.toNat_lt
  unfold sh8
  rw [IntKind.wrap_u64, IntKind.wrap_u64]
  have h1 : (v : Int) * 2 ^ min (8 : Int).toNat IntKind.u64.bits = ((v * 256 : Nat) : Int) := by
    have : min (8 : Int).toNat IntKind.u64.bits = 8 := by decide
    rw [this]; omega
  rw [h1, show ((v * 256 : Nat) : Int) % 18446744073709551616 = ((v * 256 : Nat) : Int) by omega, show (b.toNat : Int) % 18446744073709551616 = (b.toNat : Int) by omega,
    bits_or_u64_nat _ _ (by omega) (by omega)]
  congr 1
  have := Nat.two_pow_add_eq_or_of_lt (i := 8) (b := b.toNat) (by omega) v
  rw [show 2 ^ 8 * v = v * 256 by omega] at this
  exact this.symm
def numN (n : Nm) : Nat := ((((((((n.b0.toNat * 256 + n.b1.toNat) * 256 + n.b2.toNat) * 256 + n.b3.toNat) * 256 + n.b4.toNat) * 256 + n.b5.toNat) * 256 + n.b6.toNat) * 256 + n.b7.toNat))
theorem num_eq (n : Nm) : num n = (numN n : Int) := by
  have h0 := n.b0.toNat_lt; have h1 := n.b1.toNat_lt; have h2 := n.b2.toNat_lt; have h3 := n.b3.toNat_lt
  have h4 := n.b4.toNat_lt; have h5 := n.b5.toNat_lt; have h6 := n.b6.toNat_lt
  unfold num
  rw [show (0 : Int) = ((0 : Nat) : Int) from rfl, sh8_eq _ (by omega), sh8_eq _ (by omega), sh8_eq _ (by omega), sh8_eq _ (by omega), sh8_eq _ (by omega), sh8_eq _ (by omega), sh8_eq _ (by omega), sh8_eq _ (by omega)]
  unfold numN
  simp
theorem numN_inj {m n : Nm} (h : numN m = numN n) : m = n := by
  rcases m with ⟨a0, a1, a2, a3, a4, a5, a6, a7⟩
  rcases n with ⟨b0, b1, b2, b3, b4, b5, b6, b7⟩
  have ha0 := a0.toNat_lt; have ha1 := a1.toNat_lt; have ha2 := a2.toNat_lt; have ha3 := a3.toNat_lt
  have ha4 := a4.toNat_lt; have ha5 := a5.toNat_lt; have ha6 := a6.toNat_lt; have ha7 := a7.toNat_lt
  have hb0 := b0.toNat_lt; have hb1 := b1.toNat_lt; have hb2 := b2.toNat_lt; have hb3 := b3.toNat_lt
  have hb4 := b4.toNat_lt; have hb5 := b5.toNat_lt; have hb6 := b6.toNat_lt; have hb7 := b7.toNat_lt
  simp only [numN] at h
  simp only [Nm.mk.injEq, ← UInt8.toNat_inj]
  omega
def lex : List Int → List Int → Bool
  | x :: xs, y :: ys => decide (x < y) || ((x == y) && lex xs ys)
  | _, _ => false
theorem lex_irr : ∀ l, lex l l = false
  | [] => rfl
  | x :: xs => by simp [lex, lex_irr xs]
theorem lex_cons {x y : Int} {xs ys : List Int} : lex (x :: xs) (y :: ys) = true ↔ x < y ∨ (x = y ∧ lex xs ys = true) := by simp [lex]
theorem lex_trans : ∀ a b c, lex a b = true → lex b c = true → lex a c = true
  | [], _, _, h, _ => by simp [lex] at h
  | _ :: _, [], _, h, _ => by simp [lex] at h
  | _ :: _, _ :: _, [], _, h => by simp [lex] at h
  | x :: xs, y :: ys, z :: zs, h, k => by
    rw [lex_cons] at h k ⊢
    rcases h with h | ⟨h, h'⟩ <;> rcases k with k | ⟨k, k'⟩
    · exact .inl (by omega)
    · exact .inl (by omega)
    · exact .inl (by omega)
    · exact .inr ⟨by omega, lex_trans _ _ _ h' k'⟩
theorem lex_total : ∀ a b : List Int, a.length = b.length → a ≠ b → lex a b = true ∨ lex b a = true
  | [], [], _, h => absurd rfl h
  | [], _ :: _, h, _ => by simp at h
  | _ :: _, [], h, _ => by simp at h
  | x :: xs, y :: ys, h, k => by
    rw [lex_cons, lex_cons]
    by_cases e : x = y
    · subst e
      rcases lex_total xs ys (by simpa using h) (fun e => k (by rw [e])) with h | h
      · exact .inl (.inr ⟨rfl, h⟩)
      · exact .inr (.inr ⟨rfl, h⟩)
    · have : x < y ∨ y < x := by omega
      rcases this with h | h
      · exact .inl (.inl h)
      · exact .inr (.inl h)
theorem lex_mid {x y z : Int} {xs ys zs : List Int} (h : lex (x :: xs) (y :: ys) = true) (k : lex (y :: ys) (z :: zs) = true) (e : x = z) : x = y ∧ lex xs ys = true ∧ lex ys zs = true := by
  rw [lex_cons] at h k
  rcases h with h | ⟨h, h'⟩ <;> rcases k with k | ⟨k, k'⟩ <;> first | omega | exact ⟨h, h', k'⟩
def Vt.key (v : Vt) : List Int := [num v.parent, v.slot, v.round, v.kind, v.signer, v.choice, num v.value, v.support]
theorem num_inj {m n : Nm} (h : num m = num n) : m = n := by
  rw [num_eq, num_eq] at h
  exact numN_inj (by omega)
theorem Vt.key_inj {a b : Vt} (h : a.key = b.key) : a = b := by
  rcases a with ⟨a1, a2, a3, a4, a5, a6, a7, a8⟩
  rcases b with ⟨b1, b2, b3, b4, b5, b6, b7, b8⟩
  simp only [Vt.key, List.cons.injEq, and_true] at h
  obtain ⟨h1, h2, h3, h4, h5, h6, h7, h8⟩ := h
  rw [num_inj h1, num_inj h7, h2, h3, h4, h5, h6, h8]
theorem hless_lex {a b : Nm} {xs ys : List Int} (h : a ≠ b) : hless a b = lex (num a :: xs) (num b :: ys) := by
  rw [Bool.eq_iff_iff, lex_cons]
  have : num a ≠ num b := fun e => h (num_inj e)
  simp [hless, h, this]
theorem lt_lex {x y : Int} {xs ys : List Int} (h : x ≠ y) : decide (x < y) = lex (x :: xs) (y :: ys) := by
  rw [Bool.eq_iff_iff, lex_cons]
  simp [h]
theorem eq_lex {x y : Int} {xs ys : List Int} (h : x = y) : lex (x :: xs) (y :: ys) = lex xs ys := by
  subst h
  simp [lex]
theorem lessV_lex (a b : Vt) : lessV a b = lex a.key b.key := by
  unfold lessV Vt.key
  by_cases h1 : a.parent = b.parent
  · rw [if_neg (by simp [h1]), eq_lex (by rw [h1])]
    by_cases h2 : a.slot = b.slot
    · rw [if_neg (by simp [h2]), eq_lex h2]
      by_cases h3 : a.round = b.round
      · rw [if_neg (by simp [h3]), eq_lex h3]
        by_cases h4 : a.kind = b.kind
        · rw [if_neg (by simp [h4]), eq_lex h4]
          by_cases h5 : a.signer = b.signer
          · rw [if_neg (by simp [h5]), eq_lex h5]
            by_cases h6 : a.choice = b.choice
            · rw [if_neg (by simp [h6]), eq_lex h6]
              by_cases h7 : a.value = b.value
              · rw [if_neg (by simp [h7]), eq_lex (by rw [h7])]
                simp [lex]
              · rw [if_pos h7]; exact hless_lex h7
            · rw [if_pos h6]; exact lt_lex h6
          · rw [if_pos h5]; exact lt_lex h5
        · rw [if_pos h4]; exact lt_lex h4
      · rw [if_pos h3]; exact lt_lex h3
    · rw [if_pos h2]; exact lt_lex h2
  · rw [if_pos h1]; exact hless_lex h1
theorem less_irr (a : Vt) : lessV a a = false := by rw [lessV_lex]; exact lex_irr _
theorem less_trans {a b c : Vt} (h : lessV a b = true) (k : lessV b c = true) : lessV a c = true := by
  rw [lessV_lex] at *; exact lex_trans _ _ _ h k
theorem less_total {a b : Vt} (h : a ≠ b) : lessV a b = true ∨ lessV b a = true := by
  rw [lessV_lex, lessV_lex]
  exact lex_total _ _ (by simp [Vt.key]) (fun e => h (Vt.key_inj e))
theorem sameKey_iff (a b : Vt) : sameKey a b = true ↔ a.kind = b.kind ∧ a.parent = b.parent ∧ a.slot = b.slot ∧ a.round = b.round ∧ a.signer = b.signer := by
  simp [sameKey, and_assoc]
theorem less_mid {a b c : Vt} (h : lessV a b = true) (k : lessV b c = true) (s : sameKey a c = true) : sameKey a b = true ∧ sameKey b c = true := by
  rw [lessV_lex] at h k
  rw [sameKey_iff] at s
  rw [sameKey_iff, sameKey_iff]
  unfold Vt.key at h k
  obtain ⟨s1, s2, s3, s4, s5⟩ := s
  obtain ⟨e1, h, k⟩ := lex_mid h k (by rw [s2])
  obtain ⟨e2, h, k⟩ := lex_mid h k s3
  obtain ⟨e3, h, k⟩ := lex_mid h k s4
  obtain ⟨e4, h, k⟩ := lex_mid h k s1
  obtain ⟨e5, h, k⟩ := lex_mid h k s5
  have e1 := num_inj e1
  exact ⟨⟨e4, e1, e2, e3, e5⟩, e4.symm.trans s1, e1.symm.trans s2, e2.symm.trans s3, e3.symm.trans s4, e5.symm.trans s5⟩
theorem sameKey_refl (a : Vt) : sameKey a a = true := by simp [sameKey]
theorem conflict_iff (a b : Vt) : conflict a b = true ↔ a ≠ b ∧ sameKey a b = true ∧ valid a = true ∧ valid b = true := by simp [conflict, and_assoc]
end Go.Proofs.YteeopgpgbdhmhaaGreat
namespace Go.Proofs.YteeopgpgbdhmhaaGreat
open Go.RowKit
set_option linter.unusedVariables false
set_option linter.unusedSimpArgs false
attribute [local irreducible] wpList wpO H wpQuiet Code.wp Exit.then Exit.inBlock bodyPost Code.rounds Calls valid sameKey conflict lessV hless num between
set_option maxRecDepth 4000 in
set_option maxHeartbeats 1000000 in
theorem c82 (n lo hi : Int) (w : World) : Calls Tryz.prog 64 [i64 n, i64 lo, i64 hi].toArray w (Ret w (.bool (between n lo hi))) := by
  refine enter Tryz.func64 Tryz.ntmps64 rfl rfl ?_
  have hE := Ext.refl w
  refine wp_seq ?_
  refine W_region ?_
  refine L (D_v (R_assign rfl) ?_)
  refine S_nil ?_
  refine T_tn ?_
  refine wp_seq ?_
  refine W_region ?_
  refine L (D_v (R_move rfl) ?_)
  refine L (D_v (R_move rfl) ?_)
  refine L (D_v (R_geqI rfl rfl) ?_)
  refine L (D_v (R_move rfl) ?_)
  refine L (D_g1 rfl rfl (fun hb => R_move rfl) ?_)
  refine L (D_g1 rfl rfl (fun hb => R_move rfl) ?_)
  refine L (D_g1 rfl rfl (fun hb => R_leqI (cgE hb) (cgE hb)) ?_)
  refine L (D_v (R_pickA rfl rfl rfl) ?_)
  refine L (D_v (R_assign rfl) ?_)
  refine S_nil ?_
  refine T_tn ?_
  refine wp_ret ?_
  refine ret1 (v := .bool _) rfl rfl ⟨congrArg (fun b => Ending.returned (Value.bool b)) ?_, hE⟩
  simp only [between]
set_option maxRecDepth 4000 in
set_option maxHeartbeats 1000000 in
theorem c83 (k : Int) (w : World) : Calls Tryz.prog 52 [i64 k].toArray w (Ret w (.bool (between k 1 4))) := by
  refine enter Tryz.func52 Tryz.ntmps52 rfl rfl ?_
  have hE := Ext.refl w
  refine wp_seq ?_
  refine W_region ?_
  refine L (D_v (R_assign rfl) ?_)
  refine S_nil ?_
  refine T_tn ?_
  refine wp_seq ?_
  refine W_region ?_
  refine L (D_v (R_move rfl) ?_)
  refine L (D_v (R_geqI rfl rfl) ?_)
  refine L (D_v (R_move rfl) ?_)
  refine L (D_g1 rfl rfl (fun hb => R_move rfl) ?_)
  refine L (D_g1 rfl rfl (fun hb => R_leqI (cgE hb) rfl) ?_)
  refine L (D_v (R_pickA rfl rfl rfl) ?_)
  refine L (D_v (R_assign rfl) ?_)
  refine S_nil ?_
  refine T_tn ?_
  refine wp_ret ?_
  refine ret1 (v := .bool _) rfl rfl ⟨congrArg (fun b => Ending.returned (Value.bool b)) ?_, hE⟩
  simp only [between]
set_option maxRecDepth 4000 in
set_option maxHeartbeats 1000000 in
theorem c30 (a b : Vt) (w : World) : Calls Tryz.prog 50 [a.v, b.v].toArray w (Ret w (.bool (sameKey a b))) := by
  refine enter Tryz.func50 Tryz.ntmps50 rfl rfl ?_
  have hE := Ext.refl w
  refine wp_seq ?_
  refine W_region ?_
  refine L (D_box (c := (a).l) (rfl) (fun aB1 w1 e1 gB1 hB1 => ?_))
  replace hE := hE.trans e1
  refine L (D_box (c := (b).l) (rfl) (fun aB2 w2 e2 gB2 hB2 => ?_))
  replace hE := hE.trans e2
  replace hB1 := hB1.ext e2
  refine L (D_v (R_assign rfl) ?_)
  refine S_nil ?_
  refine T_tn ?_
  refine wp_seq ?_
  refine W_region ?_
  refine L (D_v (R_fieldAddr Tryz.runUnderlying31 rfl Tryz.sizeOf3 rfl) ?_)
  refine L (D_v (R_load Tryz.isAgg3 hB1 rfl rfl) ?_)
  refine L (D_v (R_fieldAddr Tryz.runUnderlying31 rfl Tryz.sizeOf3 rfl) ?_)
  refine L (D_v (R_load Tryz.isAgg3 hB2 rfl rfl) ?_)
  refine L (D_v (R_eqlI rfl rfl) ?_)
  refine L (D_v (R_move rfl) ?_)
  refine L (D_g1 rfl rfl (fun hb => R_fieldAddr Tryz.runUnderlying31 rfl Tryz.sizeOf29 rfl) ?_)
  refine L (D_g1 rfl rfl (fun hb => R_loadA (c := (a.parent).l) Tryz.isAgg29 Tryz.sizeOf29 hB1 (cgE hb) rfl rfl) ?_)
  refine L (D_g1 rfl rfl (fun hb => R_fieldAddr Tryz.runUnderlying31 rfl Tryz.sizeOf29 rfl) ?_)
  refine L (D_g1 rfl rfl (fun hb => R_loadA (c := (b.parent).l) Tryz.isAgg29 Tryz.sizeOf29 hB2 (cgE hb) rfl rfl) ?_)
  refine L (D_g1 rfl rfl (fun hb => R_eqlA Tryz.eqGuardType29 (eq24 (a.parent) (b.parent) _) (cgE hb) (cgE hb)) ?_)
  refine L (D_v (R_pickA rfl rfl rfl) ?_)
  refine L (D_v (R_move rfl) ?_)
  refine L (D_g1 rfl rfl (fun hb => R_fieldAddr Tryz.runUnderlying31 rfl Tryz.sizeOf3 rfl) ?_)
  refine L (D_g1 rfl rfl (fun hb => R_load Tryz.isAgg3 hB1 (cgE hb) rfl) ?_)
  refine L (D_g1 rfl rfl (fun hb => R_fieldAddr Tryz.runUnderlying31 rfl Tryz.sizeOf3 rfl) ?_)
  refine L (D_g1 rfl rfl (fun hb => R_load Tryz.isAgg3 hB2 (cgE hb) rfl) ?_)
  refine L (D_g1 rfl rfl (fun hb => R_eqlI (cgE hb) (cgE hb)) ?_)
  refine L (D_v (R_pickA rfl rfl rfl) ?_)
  refine L (D_v (R_move rfl) ?_)
  refine L (D_g1 rfl rfl (fun hb => R_fieldAddr Tryz.runUnderlying31 rfl Tryz.sizeOf3 rfl) ?_)
  refine L (D_g1 rfl rfl (fun hb => R_load Tryz.isAgg3 hB1 (cgE hb) rfl) ?_)
  refine L (D_g1 rfl rfl (fun hb => R_fieldAddr Tryz.runUnderlying31 rfl Tryz.sizeOf3 rfl) ?_)
  refine L (D_g1 rfl rfl (fun hb => R_load Tryz.isAgg3 hB2 (cgE hb) rfl) ?_)
  refine L (D_g1 rfl rfl (fun hb => R_eqlI (cgE hb) (cgE hb)) ?_)
  refine L (D_v (R_pickA rfl rfl rfl) ?_)
  refine L (D_v (R_move rfl) ?_)
  refine L (D_g1 rfl rfl (fun hb => R_fieldAddr Tryz.runUnderlying31 rfl Tryz.sizeOf3 rfl) ?_)
  refine L (D_g1 rfl rfl (fun hb => R_load Tryz.isAgg3 hB1 (cgE hb) rfl) ?_)
  refine L (D_g1 rfl rfl (fun hb => R_fieldAddr Tryz.runUnderlying31 rfl Tryz.sizeOf3 rfl) ?_)
  refine L (D_g1 rfl rfl (fun hb => R_load Tryz.isAgg3 hB2 (cgE hb) rfl) ?_)
  refine L (D_g1 rfl rfl (fun hb => R_eqlI (cgE hb) (cgE hb)) ?_)
  refine L (D_v (R_pickA rfl rfl rfl) ?_)
  refine L (D_v (R_assign rfl) ?_)
  refine S_nil ?_
  refine T_tn ?_
  refine wp_ret ?_
  refine ret1 (v := .bool _) rfl rfl ⟨congrArg (fun b => Ending.returned (Value.bool b)) ?_, hE⟩
  simp only [sameKey]
set_option maxRecDepth 4000 in
set_option maxHeartbeats 1000000 in
theorem c108 (n : Nm) (w : World) : Calls Tryz.prog 86 [n.v].toArray w (Ret w (.int .u64 (num n))) := by
  refine enter Tryz.func86 Tryz.ntmps86 rfl rfl ?_
  have hE := Ext.refl w
  refine wp_seq ?_
  refine W_region ?_
  refine L (D_box (c := (n).l) (rfl) (fun aB1 w1 e1 gB1 hB1 => ?_))
  replace hE := hE.trans e1
  refine L (D_v (R_assign rfl) ?_)
  refine S_nil ?_
  refine T_tn ?_
  refine wp_seq ?_
  refine W_region ?_
  refine L (D_v (R_assign rfl) ?_)
  refine S_nil ?_
  refine T_tn ?_
  refine wp_seq ?_
  refine wp_seq ?_
  refine W_region ?_
  refine L (D_v (R_loadA (c := (n).l) Tryz.isAgg29 Tryz.sizeOf29 hB1 rfl rfl rfl) ?_)
  refine L (D_v (R_move rfl) ?_)
  refine S_nil ?_
  refine T_tn ?_
  refine wp_block ?_
  refine W_unroll 8 ?_
  refine W_round ?_
  refine wp_seq ?_
  refine W_region ?_
  refine L (D_v (R_cast (v' := .bool true) (R_lssI rfl rfl) rfl) ?_)
  refine S_nil ?_
  refine T_tn ?_
  refine wp_seq ?_
  refine W_ift rfl ?_
  refine wp_skip ?_
  refine T_tn ?_
  refine wp_seq ?_
  refine wp_block ?_
  refine wp_seq ?_
  refine W_region ?_
  refine L (D_v (R_index Tryz.runUnderlying29 Tryz.sizeOf5 Tryz.isAgg5 rfl rfl rfl (by decide) (by decide)) ?_)
  refine L (D_v (R_assign rfl) ?_)
  refine S_nil ?_
  refine T_tn ?_
  refine W_region ?_
  refine L (D_v (R_move rfl) ?_)
  refine L (D_v (R_shlC (z := 8) rfl rfl (by decide) (by decide)) ?_)
  refine L (D_v (R_move rfl) ?_)
  refine L (D_v (R_conv Tryz.runUnderlying5 Tryz.runUnderlying45 rfl) ?_)
  refine L (D_v (R_orI rfl rfl) ?_)
  refine L (D_v (R_assign rfl) ?_)
  refine S_nil ?_
  refine T_bn ?_
  refine T_tn ?_
  refine W_region ?_
  refine L (D_v (R_cast (v' := .int .i64 (1)) (R_addI rfl rfl) rfl) ?_)
  refine L (D_v (R_move rfl) ?_)
  refine S_nil ?_
  refine T_tn ?_
  refine W_round ?_
  refine wp_seq ?_
  refine W_region ?_
  refine L (D_v (R_cast (v' := .bool true) (R_lssI rfl rfl) rfl) ?_)
  refine S_nil ?_
  refine T_tn ?_
  refine wp_seq ?_
  refine W_ift rfl ?_
  refine wp_skip ?_
  refine T_tn ?_
  refine wp_seq ?_
  refine wp_block ?_
  refine wp_seq ?_
  refine W_region ?_
  refine L (D_v (R_index Tryz.runUnderlying29 Tryz.sizeOf5 Tryz.isAgg5 rfl rfl rfl (by decide) (by decide)) ?_)
  refine L (D_v (R_assign rfl) ?_)
  refine S_nil ?_
  refine T_tn ?_
  refine W_region ?_
  refine L (D_v (R_move rfl) ?_)
  refine L (D_v (R_shlC (z := 8) rfl rfl (by decide) (by decide)) ?_)
  refine L (D_v (R_move rfl) ?_)
  refine L (D_v (R_conv Tryz.runUnderlying5 Tryz.runUnderlying45 rfl) ?_)
  refine L (D_v (R_orI rfl rfl) ?_)
  refine L (D_v (R_assign rfl) ?_)
  refine S_nil ?_
  refine T_bn ?_
  refine T_tn ?_
  refine W_region ?_
  refine L (D_v (R_cast (v' := .int .i64 (2)) (R_addI rfl rfl) rfl) ?_)
  refine L (D_v (R_move rfl) ?_)
  refine S_nil ?_
  refine T_tn ?_
  refine W_round ?_
  refine wp_seq ?_
  refine W_region ?_
  refine L (D_v (R_cast (v' := .bool true) (R_lssI rfl rfl) rfl) ?_)
  refine S_nil ?_
  refine T_tn ?_
  refine wp_seq ?_
  refine W_ift rfl ?_
  refine wp_skip ?_
  refine T_tn ?_
  refine wp_seq ?_
  refine wp_block ?_
  refine wp_seq ?_
  refine W_region ?_
  refine L (D_v (R_index Tryz.runUnderlying29 Tryz.sizeOf5 Tryz.isAgg5 rfl rfl rfl (by decide) (by decide)) ?_)
  refine L (D_v (R_assign rfl) ?_)
  refine S_nil ?_
  refine T_tn ?_
  refine W_region ?_
  refine L (D_v (R_move rfl) ?_)
  refine L (D_v (R_shlC (z := 8) rfl rfl (by decide) (by decide)) ?_)
  refine L (D_v (R_move rfl) ?_)
  refine L (D_v (R_conv Tryz.runUnderlying5 Tryz.runUnderlying45 rfl) ?_)
  refine L (D_v (R_orI rfl rfl) ?_)
  refine L (D_v (R_assign rfl) ?_)
  refine S_nil ?_
  refine T_bn ?_
  refine T_tn ?_
  refine W_region ?_
  refine L (D_v (R_cast (v' := .int .i64 (3)) (R_addI rfl rfl) rfl) ?_)
  refine L (D_v (R_move rfl) ?_)
  refine S_nil ?_
  refine T_tn ?_
  refine W_round ?_
  refine wp_seq ?_
  refine W_region ?_
  refine L (D_v (R_cast (v' := .bool true) (R_lssI rfl rfl) rfl) ?_)
  refine S_nil ?_
  refine T_tn ?_
  refine wp_seq ?_
  refine W_ift rfl ?_
  refine wp_skip ?_
  refine T_tn ?_
  refine wp_seq ?_
  refine wp_block ?_
  refine wp_seq ?_
  refine W_region ?_
  refine L (D_v (R_index Tryz.runUnderlying29 Tryz.sizeOf5 Tryz.isAgg5 rfl rfl rfl (by decide) (by decide)) ?_)
  refine L (D_v (R_assign rfl) ?_)
  refine S_nil ?_
  refine T_tn ?_
  refine W_region ?_
  refine L (D_v (R_move rfl) ?_)
  refine L (D_v (R_shlC (z := 8) rfl rfl (by decide) (by decide)) ?_)
  refine L (D_v (R_move rfl) ?_)
  refine L (D_v (R_conv Tryz.runUnderlying5 Tryz.runUnderlying45 rfl) ?_)
  refine L (D_v (R_orI rfl rfl) ?_)
  refine L (D_v (R_assign rfl) ?_)
  refine S_nil ?_
  refine T_bn ?_
  refine T_tn ?_
  refine W_region ?_
  refine L (D_v (R_cast (v' := .int .i64 (4)) (R_addI rfl rfl) rfl) ?_)
  refine L (D_v (R_move rfl) ?_)
  refine S_nil ?_
  refine T_tn ?_
  refine W_round ?_
  refine wp_seq ?_
  refine W_region ?_
  refine L (D_v (R_cast (v' := .bool true) (R_lssI rfl rfl) rfl) ?_)
  refine S_nil ?_
  refine T_tn ?_
  refine wp_seq ?_
  refine W_ift rfl ?_
  refine wp_skip ?_
  refine T_tn ?_
  refine wp_seq ?_
  refine wp_block ?_
  refine wp_seq ?_
  refine W_region ?_
  refine L (D_v (R_index Tryz.runUnderlying29 Tryz.sizeOf5 Tryz.isAgg5 rfl rfl rfl (by decide) (by decide)) ?_)
  refine L (D_v (R_assign rfl) ?_)
  refine S_nil ?_
  refine T_tn ?_
  refine W_region ?_
  refine L (D_v (R_move rfl) ?_)
  refine L (D_v (R_shlC (z := 8) rfl rfl (by decide) (by decide)) ?_)
  refine L (D_v (R_move rfl) ?_)
  refine L (D_v (R_conv Tryz.runUnderlying5 Tryz.runUnderlying45 rfl) ?_)
  refine L (D_v (R_orI rfl rfl) ?_)
  refine L (D_v (R_assign rfl) ?_)
  refine S_nil ?_
  refine T_bn ?_
  refine T_tn ?_
  refine W_region ?_
  refine L (D_v (R_cast (v' := .int .i64 (5)) (R_addI rfl rfl) rfl) ?_)
  refine L (D_v (R_move rfl) ?_)
  refine S_nil ?_
  refine T_tn ?_
  refine W_round ?_
  refine wp_seq ?_
  refine W_region ?_
  refine L (D_v (R_cast (v' := .bool true) (R_lssI rfl rfl) rfl) ?_)
  refine S_nil ?_
  refine T_tn ?_
  refine wp_seq ?_
  refine W_ift rfl ?_
  refine wp_skip ?_
  refine T_tn ?_
  refine wp_seq ?_
  refine wp_block ?_
  refine wp_seq ?_
  refine W_region ?_
  refine L (D_v (R_index Tryz.runUnderlying29 Tryz.sizeOf5 Tryz.isAgg5 rfl rfl rfl (by decide) (by decide)) ?_)
  refine L (D_v (R_assign rfl) ?_)
  refine S_nil ?_
  refine T_tn ?_
  refine W_region ?_
  refine L (D_v (R_move rfl) ?_)
  refine L (D_v (R_shlC (z := 8) rfl rfl (by decide) (by decide)) ?_)
  refine L (D_v (R_move rfl) ?_)
  refine L (D_v (R_conv Tryz.runUnderlying5 Tryz.runUnderlying45 rfl) ?_)
  refine L (D_v (R_orI rfl rfl) ?_)
  refine L (D_v (R_assign rfl) ?_)
  refine S_nil ?_
  refine T_bn ?_
  refine T_tn ?_
  refine W_region ?_
  refine L (D_v (R_cast (v' := .int .i64 (6)) (R_addI rfl rfl) rfl) ?_)
  refine L (D_v (R_move rfl) ?_)
  refine S_nil ?_
  refine T_tn ?_
  refine W_round ?_
  refine wp_seq ?_
  refine W_region ?_
  refine L (D_v (R_cast (v' := .bool true) (R_lssI rfl rfl) rfl) ?_)
  refine S_nil ?_
  refine T_tn ?_
  refine wp_seq ?_
  refine W_ift rfl ?_
  refine wp_skip ?_
  refine T_tn ?_
  refine wp_seq ?_
  refine wp_block ?_
  refine wp_seq ?_
  refine W_region ?_
  refine L (D_v (R_index Tryz.runUnderlying29 Tryz.sizeOf5 Tryz.isAgg5 rfl rfl rfl (by decide) (by decide)) ?_)
  refine L (D_v (R_assign rfl) ?_)
  refine S_nil ?_
  refine T_tn ?_
  refine W_region ?_
  refine L (D_v (R_move rfl) ?_)
  refine L (D_v (R_shlC (z := 8) rfl rfl (by decide) (by decide)) ?_)
  refine L (D_v (R_move rfl) ?_)
  refine L (D_v (R_conv Tryz.runUnderlying5 Tryz.runUnderlying45 rfl) ?_)
  refine L (D_v (R_orI rfl rfl) ?_)
  refine L (D_v (R_assign rfl) ?_)
  refine S_nil ?_
  refine T_bn ?_
  refine T_tn ?_
  refine W_region ?_
  refine L (D_v (R_cast (v' := .int .i64 (7)) (R_addI rfl rfl) rfl) ?_)
  refine L (D_v (R_move rfl) ?_)
  refine S_nil ?_
  refine T_tn ?_
  refine W_round ?_
  refine wp_seq ?_
  refine W_region ?_
  refine L (D_v (R_cast (v' := .bool true) (R_lssI rfl rfl) rfl) ?_)
  refine S_nil ?_
  refine T_tn ?_
  refine wp_seq ?_
  refine W_ift rfl ?_
  refine wp_skip ?_
  refine T_tn ?_
  refine wp_seq ?_
  refine wp_block ?_
  refine wp_seq ?_
  refine W_region ?_
  refine L (D_v (R_index Tryz.runUnderlying29 Tryz.sizeOf5 Tryz.isAgg5 rfl rfl rfl (by decide) (by decide)) ?_)
  refine L (D_v (R_assign rfl) ?_)
  refine S_nil ?_
  refine T_tn ?_
  refine W_region ?_
  refine L (D_v (R_move rfl) ?_)
  refine L (D_v (R_shlC (z := 8) rfl rfl (by decide) (by decide)) ?_)
  refine L (D_v (R_move rfl) ?_)
  refine L (D_v (R_conv Tryz.runUnderlying5 Tryz.runUnderlying45 rfl) ?_)
  refine L (D_v (R_orI rfl rfl) ?_)
  refine L (D_v (R_assign rfl) ?_)
  refine S_nil ?_
  refine T_bn ?_
  refine T_tn ?_
  refine W_region ?_
  refine L (D_v (R_cast (v' := .int .i64 (8)) (R_addI rfl rfl) rfl) ?_)
  refine L (D_v (R_move rfl) ?_)
  refine S_nil ?_
  refine T_tn ?_
  refine W_round ?_
  refine wp_seq ?_
  refine W_region ?_
  refine L (D_v (R_cast (v' := .bool false) (R_lssI rfl rfl) rfl) ?_)
  refine S_nil ?_
  refine T_tn ?_
  refine wp_seq ?_
  refine W_iff rfl ?_
  refine wp_exit ?_
  refine T_te ?_
  refine T_te ?_
  refine T_be ?_
  refine T_tn ?_
  refine wp_seq ?_
  refine W_region ?_
  refine L (D_v (R_move rfl) ?_)
  refine L (D_v (R_assign rfl) ?_)
  refine S_nil ?_
  refine T_tn ?_
  refine wp_ret ?_
  refine ret1 (v := .int _ _) rfl rfl ⟨?_, hE⟩
  unfold num; rfl
set_option maxRecDepth 4000 in
set_option maxHeartbeats 1000000 in
theorem c109 (n : Nm) (w : World) : Calls Tryz.prog 103 [n.v].toArray w (Ret w (.int .u64 (num n))) := by
  refine enter Tryz.func103 Tryz.ntmps103 rfl rfl ?_
  have hE := Ext.refl w
  refine wp_seq ?_
  refine W_region ?_
  refine L (D_box (c := (n).l) (rfl) (fun aB1 w1 e1 gB1 hB1 => ?_))
  replace hE := hE.trans e1
  refine L (D_v (R_assign rfl) ?_)
  refine S_nil ?_
  refine T_tn ?_
  refine wp_seq ?_
  refine W_region ?_
  refine L (D_v (R_assign rfl) ?_)
  refine S_nil ?_
  refine T_tn ?_
  refine wp_seq ?_
  refine wp_seq ?_
  refine W_region ?_
  refine L (D_v (R_assign rfl) ?_)
  refine S_nil ?_
  refine T_tn ?_
  refine wp_block ?_
  refine W_unroll 8 ?_
  refine W_round ?_
  refine wp_seq ?_
  refine wp_seq ?_
  refine W_region ?_
  refine L (D_v (R_move rfl) ?_)
  refine L (D_v (R_cast (v' := .bool true) (R_lssI rfl rfl) rfl) ?_)
  refine S_nil ?_
  refine T_tn ?_
  refine W_ift rfl ?_
  refine wp_skip ?_
  refine T_tn ?_
  refine wp_seq ?_
  refine wp_block ?_
  refine W_region ?_
  refine L (D_v (R_move rfl) ?_)
  refine L (D_v (R_shlC (z := 8) rfl rfl (by decide) (by decide)) ?_)
  refine L (D_v (R_move rfl) ?_)
  refine L (D_v (R_indexAddrA Tryz.runUnderlying29 Tryz.sizeOf5 rfl rfl (by decide) (by decide)) ?_)
  refine L (D_v (R_load Tryz.isAgg5 hB1 rfl rfl) ?_)
  refine L (D_v (R_conv Tryz.runUnderlying5 Tryz.runUnderlying45 rfl) ?_)
  refine L (D_v (R_orI rfl rfl) ?_)
  refine L (D_v (R_assign rfl) ?_)
  refine S_nil ?_
  refine T_bn ?_
  refine T_tn ?_
  refine W_region ?_
  refine L (D_v (R_move rfl) ?_)
  refine L (D_v (R_cast (v' := .int .i64 (1)) (R_addI rfl rfl) rfl) ?_)
  refine L (D_v (R_assign rfl) ?_)
  refine S_nil ?_
  refine T_tn ?_
  refine W_round ?_
  refine wp_seq ?_
  refine wp_seq ?_
  refine W_region ?_
  refine L (D_v (R_move rfl) ?_)
  refine L (D_v (R_cast (v' := .bool true) (R_lssI rfl rfl) rfl) ?_)
  refine S_nil ?_
  refine T_tn ?_
  refine W_ift rfl ?_
  refine wp_skip ?_
  refine T_tn ?_
  refine wp_seq ?_
  refine wp_block ?_
  refine W_region ?_
  refine L (D_v (R_move rfl) ?_)
  refine L (D_v (R_shlC (z := 8) rfl rfl (by decide) (by decide)) ?_)
  refine L (D_v (R_move rfl) ?_)
  refine L (D_v (R_indexAddrA Tryz.runUnderlying29 Tryz.sizeOf5 rfl rfl (by decide) (by decide)) ?_)
  refine L (D_v (R_load Tryz.isAgg5 hB1 rfl rfl) ?_)
  refine L (D_v (R_conv Tryz.runUnderlying5 Tryz.runUnderlying45 rfl) ?_)
  refine L (D_v (R_orI rfl rfl) ?_)
  refine L (D_v (R_assign rfl) ?_)
  refine S_nil ?_
  refine T_bn ?_
  refine T_tn ?_
  refine W_region ?_
  refine L (D_v (R_move rfl) ?_)
  refine L (D_v (R_cast (v' := .int .i64 (2)) (R_addI rfl rfl) rfl) ?_)
  refine L (D_v (R_assign rfl) ?_)
  refine S_nil ?_
  refine T_tn ?_
  refine W_round ?_
  refine wp_seq ?_
  refine wp_seq ?_
  refine W_region ?_
  refine L (D_v (R_move rfl) ?_)
  refine L (D_v (R_cast (v' := .bool true) (R_lssI rfl rfl) rfl) ?_)
  refine S_nil ?_
  refine T_tn ?_
  refine W_ift rfl ?_
  refine wp_skip ?_
  refine T_tn ?_
  refine wp_seq ?_
  refine wp_block ?_
  refine W_region ?_
  refine L (D_v (R_move rfl) ?_)
  refine L (D_v (R_shlC (z := 8) rfl rfl (by decide) (by decide)) ?_)
  refine L (D_v (R_move rfl) ?_)
  refine L (D_v (R_indexAddrA Tryz.runUnderlying29 Tryz.sizeOf5 rfl rfl (by decide) (by decide)) ?_)
  refine L (D_v (R_load Tryz.isAgg5 hB1 rfl rfl) ?_)
  refine L (D_v (R_conv Tryz.runUnderlying5 Tryz.runUnderlying45 rfl) ?_)
  refine L (D_v (R_orI rfl rfl) ?_)
  refine L (D_v (R_assign rfl) ?_)
  refine S_nil ?_
  refine T_bn ?_
  refine T_tn ?_
  refine W_region ?_
  refine L (D_v (R_move rfl) ?_)
  refine L (D_v (R_cast (v' := .int .i64 (3)) (R_addI rfl rfl) rfl) ?_)
  refine L (D_v (R_assign rfl) ?_)
  refine S_nil ?_
  refine T_tn ?_
  refine W_round ?_
  refine wp_seq ?_
  refine wp_seq ?_
  refine W_region ?_
  refine L (D_v (R_move rfl) ?_)
  refine L (D_v (R_cast (v' := .bool true) (R_lssI rfl rfl) rfl) ?_)
  refine S_nil ?_
  refine T_tn ?_
  refine W_ift rfl ?_
  refine wp_skip ?_
  refine T_tn ?_
  refine wp_seq ?_
  refine wp_block ?_
  refine W_region ?_
  refine L (D_v (R_move rfl) ?_)
  refine L (D_v (R_shlC (z := 8) rfl rfl (by decide) (by decide)) ?_)
  refine L (D_v (R_move rfl) ?_)
  refine L (D_v (R_indexAddrA Tryz.runUnderlying29 Tryz.sizeOf5 rfl rfl (by decide) (by decide)) ?_)
  refine L (D_v (R_load Tryz.isAgg5 hB1 rfl rfl) ?_)
  refine L (D_v (R_conv Tryz.runUnderlying5 Tryz.runUnderlying45 rfl) ?_)
  refine L (D_v (R_orI rfl rfl) ?_)
  refine L (D_v (R_assign rfl) ?_)
  refine S_nil ?_
  refine T_bn ?_
  refine T_tn ?_
  refine W_region ?_
  refine L (D_v (R_move rfl) ?_)
  refine L (D_v (R_cast (v' := .int .i64 (4)) (R_addI rfl rfl) rfl) ?_)
  refine L (D_v (R_assign rfl) ?_)
  refine S_nil ?_
  refine T_tn ?_
  refine W_round ?_
  refine wp_seq ?_
  refine wp_seq ?_
  refine W_region ?_
  refine L (D_v (R_move rfl) ?_)
  refine L (D_v (R_cast (v' := .bool true) (R_lssI rfl rfl) rfl) ?_)
  refine S_nil ?_
  refine T_tn ?_
  refine W_ift rfl ?_
  refine wp_skip ?_
  refine T_tn ?_
  refine wp_seq ?_
  refine wp_block ?_
  refine W_region ?_
  refine L (D_v (R_move rfl) ?_)
  refine L (D_v (R_shlC (z := 8) rfl rfl (by decide) (by decide)) ?_)
  refine L (D_v (R_move rfl) ?_)
  refine L (D_v (R_indexAddrA Tryz.runUnderlying29 Tryz.sizeOf5 rfl rfl (by decide) (by decide)) ?_)
  refine L (D_v (R_load Tryz.isAgg5 hB1 rfl rfl) ?_)
  refine L (D_v (R_conv Tryz.runUnderlying5 Tryz.runUnderlying45 rfl) ?_)
  refine L (D_v (R_orI rfl rfl) ?_)
  refine L (D_v (R_assign rfl) ?_)
  refine S_nil ?_
  refine T_bn ?_
  refine T_tn ?_
  refine W_region ?_
  refine L (D_v (R_move rfl) ?_)
  refine L (D_v (R_cast (v' := .int .i64 (5)) (R_addI rfl rfl) rfl) ?_)
  refine L (D_v (R_assign rfl) ?_)
  refine S_nil ?_
  refine T_tn ?_
  refine W_round ?_
  refine wp_seq ?_
  refine wp_seq ?_
  refine W_region ?_
  refine L (D_v (R_move rfl) ?_)
  refine L (D_v (R_cast (v' := .bool true) (R_lssI rfl rfl) rfl) ?_)
  refine S_nil ?_
  refine T_tn ?_
  refine W_ift rfl ?_
  refine wp_skip ?_
  refine T_tn ?_
  refine wp_seq ?_
  refine wp_block ?_
  refine W_region ?_
  refine L (D_v (R_move rfl) ?_)
  refine L (D_v (R_shlC (z := 8) rfl rfl (by decide) (by decide)) ?_)
  refine L (D_v (R_move rfl) ?_)
  refine L (D_v (R_indexAddrA Tryz.runUnderlying29 Tryz.sizeOf5 rfl rfl (by decide) (by decide)) ?_)
  refine L (D_v (R_load Tryz.isAgg5 hB1 rfl rfl) ?_)
  refine L (D_v (R_conv Tryz.runUnderlying5 Tryz.runUnderlying45 rfl) ?_)
  refine L (D_v (R_orI rfl rfl) ?_)
  refine L (D_v (R_assign rfl) ?_)
  refine S_nil ?_
  refine T_bn ?_
  refine T_tn ?_
  refine W_region ?_
  refine L (D_v (R_move rfl) ?_)
  refine L (D_v (R_cast (v' := .int .i64 (6)) (R_addI rfl rfl) rfl) ?_)
  refine L (D_v (R_assign rfl) ?_)
  refine S_nil ?_
  refine T_tn ?_
  refine W_round ?_
  refine wp_seq ?_
  refine wp_seq ?_
  refine W_region ?_
  refine L (D_v (R_move rfl) ?_)
  refine L (D_v (R_cast (v' := .bool true) (R_lssI rfl rfl) rfl) ?_)
  refine S_nil ?_
  refine T_tn ?_
  refine W_ift rfl ?_
  refine wp_skip ?_
  refine T_tn ?_
  refine wp_seq ?_
  refine wp_block ?_
  refine W_region ?_
  refine L (D_v (R_move rfl) ?_)
  refine L (D_v (R_shlC (z := 8) rfl rfl (by decide) (by decide)) ?_)
  refine L (D_v (R_move rfl) ?_)
  refine L (D_v (R_indexAddrA Tryz.runUnderlying29 Tryz.sizeOf5 rfl rfl (by decide) (by decide)) ?_)
  refine L (D_v (R_load Tryz.isAgg5 hB1 rfl rfl) ?_)
  refine L (D_v (R_conv Tryz.runUnderlying5 Tryz.runUnderlying45 rfl) ?_)
  refine L (D_v (R_orI rfl rfl) ?_)
  refine L (D_v (R_assign rfl) ?_)
  refine S_nil ?_
  refine T_bn ?_
  refine T_tn ?_
  refine W_region ?_
  refine L (D_v (R_move rfl) ?_)
  refine L (D_v (R_cast (v' := .int .i64 (7)) (R_addI rfl rfl) rfl) ?_)
  refine L (D_v (R_assign rfl) ?_)
  refine S_nil ?_
  refine T_tn ?_
  refine W_round ?_
  refine wp_seq ?_
  refine wp_seq ?_
  refine W_region ?_
  refine L (D_v (R_move rfl) ?_)
  refine L (D_v (R_cast (v' := .bool true) (R_lssI rfl rfl) rfl) ?_)
  refine S_nil ?_
  refine T_tn ?_
  refine W_ift rfl ?_
  refine wp_skip ?_
  refine T_tn ?_
  refine wp_seq ?_
  refine wp_block ?_
  refine W_region ?_
  refine L (D_v (R_move rfl) ?_)
  refine L (D_v (R_shlC (z := 8) rfl rfl (by decide) (by decide)) ?_)
  refine L (D_v (R_move rfl) ?_)
  refine L (D_v (R_indexAddrA Tryz.runUnderlying29 Tryz.sizeOf5 rfl rfl (by decide) (by decide)) ?_)
  refine L (D_v (R_load Tryz.isAgg5 hB1 rfl rfl) ?_)
  refine L (D_v (R_conv Tryz.runUnderlying5 Tryz.runUnderlying45 rfl) ?_)
  refine L (D_v (R_orI rfl rfl) ?_)
  refine L (D_v (R_assign rfl) ?_)
  refine S_nil ?_
  refine T_bn ?_
  refine T_tn ?_
  refine W_region ?_
  refine L (D_v (R_move rfl) ?_)
  refine L (D_v (R_cast (v' := .int .i64 (8)) (R_addI rfl rfl) rfl) ?_)
  refine L (D_v (R_assign rfl) ?_)
  refine S_nil ?_
  refine T_tn ?_
  refine W_round ?_
  refine wp_seq ?_
  refine wp_seq ?_
  refine W_region ?_
  refine L (D_v (R_move rfl) ?_)
  refine L (D_v (R_cast (v' := .bool false) (R_lssI rfl rfl) rfl) ?_)
  refine S_nil ?_
  refine T_tn ?_
  refine W_iff rfl ?_
  refine wp_exit ?_
  refine T_te ?_
  refine T_te ?_
  refine T_be ?_
  refine T_tn ?_
  refine wp_seq ?_
  refine W_region ?_
  refine L (D_v (R_move rfl) ?_)
  refine L (D_v (R_assign rfl) ?_)
  refine S_nil ?_
  refine T_tn ?_
  refine wp_ret ?_
  refine ret1 (v := .int _ _) rfl rfl ⟨?_, hE⟩
  unfold num; rfl
set_option maxRecDepth 4000 in
set_option maxHeartbeats 1000000 in
theorem c84 (a b : Nm) (w : World) : Calls Tryz.prog 49 [a.v, b.v].toArray w (Ret w (.bool (hless a b))) := by
  refine enter Tryz.func49 Tryz.ntmps49 rfl rfl ?_
  have hE := Ext.refl w
  refine wp_seq ?_
  refine W_region ?_
  refine L (D_box (c := (a).l) (rfl) (fun aB1 w1 e1 gB1 hB1 => ?_))
  replace hE := hE.trans e1
  refine L (D_box (c := (b).l) (rfl) (fun aB2 w2 e2 gB2 hB2 => ?_))
  replace hE := hE.trans e2
  replace hB1 := hB1.ext e2
  refine L (D_v (R_assign rfl) ?_)
  refine S_nil ?_
  refine T_tn ?_
  refine wp_seq ?_
  refine wp_seq ?_
  refine W_region ?_
  refine L (D_v (R_loadA (c := (a).l) Tryz.isAgg29 Tryz.sizeOf29 hB1 rfl rfl rfl) ?_)
  refine L (D_v (R_loadA (c := (b).l) Tryz.isAgg29 Tryz.sizeOf29 hB2 rfl rfl rfl) ?_)
  refine L (D_v (R_eqlA Tryz.eqGuardType29 (eq24 (a) (b) _) rfl rfl) ?_)
  refine S_nil ?_
  refine T_tn ?_
  refine W_if rfl (fun c3 => ?_) (fun c3 => ?_)
  ·
    refine wp_seq ?_
    refine W_region ?_
    refine L (D_v (R_assign rfl) ?_)
    refine S_nil ?_
    refine T_tn ?_
    refine wp_ret ?_
    refine T_tr ?_
    refine ret1 (v := .bool _) rfl rfl ⟨congrArg (fun b => Ending.returned (Value.bool b)) ?_, hE⟩
    simp_all [hless]
  ·
    refine wp_skip ?_
    refine T_tn ?_
    refine wp_seq ?_
    refine W_draw mixed (by kernel_rfl) ?_
    refine Q_v (fun w hw => R_loadA (c := (a).l) Tryz.isAgg29 Tryz.sizeOf29 (hB1.ext hw) rfl rfl rfl) ?_
    refine Q_call (fun w hw => R_callF Tryz.call86 rfl rfl) (fun w hw => c108 (a) _ ) ?_
    refine Q_v (fun w hw => R_loadA (c := (b).l) Tryz.isAgg29 Tryz.sizeOf29 (hB2.ext hw) rfl rfl rfl) ?_
    refine Q_call (fun w hw => R_callF Tryz.call86 rfl rfl) (fun w hw => c108 (b) _ ) ?_
    refine Q_v (fun w hw => R_lssI rfl rfl) ?_
    refine Q_v (fun w hw => R_assign rfl) ?_
    refine Q_nil (fun w3 e4 => ?_)
    replace hE := hE.trans e4
    replace hB1 := hB1.ext e4
    replace hB2 := hB2.ext e4
    refine T_tn ?_
    refine wp_ret ?_
    refine ret1 (v := .bool _) rfl rfl ⟨congrArg (fun b => Ending.returned (Value.bool b)) ?_, hE⟩
    simp_all [hless]
set_option maxRecDepth 4000 in
set_option maxHeartbeats 1000000 in
theorem c85 (a b : Nm) (w : World) : Calls Tryz.prog 79 [a.v, b.v].toArray w (Ret w (.bool (decide (num a < num b)))) := by
  refine enter Tryz.func79 Tryz.ntmps79 rfl rfl ?_
  have hE := Ext.refl w
  refine wp_seq ?_
  refine W_region ?_
  refine L (D_box (c := (a).l) (rfl) (fun aB1 w1 e1 gB1 hB1 => ?_))
  replace hE := hE.trans e1
  refine L (D_box (c := (b).l) (rfl) (fun aB2 w2 e2 gB2 hB2 => ?_))
  replace hE := hE.trans e2
  replace hB1 := hB1.ext e2
  refine L (D_v (R_assign rfl) ?_)
  refine S_nil ?_
  refine T_tn ?_
  refine wp_seq ?_
  refine W_draw mixed (by kernel_rfl) ?_
  refine Q_v (fun w hw => R_loadA (c := (a).l) Tryz.isAgg29 Tryz.sizeOf29 (hB1.ext hw) rfl rfl rfl) ?_
  refine Q_call (fun w hw => R_callF Tryz.call103 rfl rfl) (fun w hw => c109 (a) _ ) ?_
  refine Q_v (fun w hw => R_loadA (c := (b).l) Tryz.isAgg29 Tryz.sizeOf29 (hB2.ext hw) rfl rfl rfl) ?_
  refine Q_call (fun w hw => R_callF Tryz.call103 rfl rfl) (fun w hw => c109 (b) _ ) ?_
  refine Q_v (fun w hw => R_lssI rfl rfl) ?_
  refine Q_v (fun w hw => R_assign rfl) ?_
  refine Q_nil (fun w3 e3 => ?_)
  replace hE := hE.trans e3
  replace hB1 := hB1.ext e3
  replace hB2 := hB2.ext e3
  refine T_tn ?_
  refine wp_ret ?_
  refine ret1 (v := .bool _) rfl rfl ⟨congrArg (fun b => Ending.returned (Value.bool b)) ?_, hE⟩
  rfl
set_option maxRecDepth 4000 in
set_option maxHeartbeats 1000000 in
theorem c26 (a : Vt) (w : World) : Calls Tryz.prog 38 [a.v].toArray w (Ret w (.bool (valid a))) := by
  refine enter Tryz.func38 Tryz.ntmps38 rfl rfl ?_
  have hE := Ext.refl w
  refine wp_seq ?_
  refine W_region ?_
  refine L (D_box (c := (a).l) (rfl) (fun aB1 w1 e1 gB1 hB1 => ?_))
  replace hE := hE.trans e1
  refine L (D_v (R_assign rfl) ?_)
  refine S_nil ?_
  refine T_tn ?_
  refine wp_seq ?_
  refine wp_seq ?_
  refine W_region ?_
  refine L (D_v (R_fieldAddr Tryz.runUnderlying31 rfl Tryz.sizeOf3 rfl) ?_)
  refine L (D_v (R_load Tryz.isAgg3 hB1 rfl rfl) ?_)
  refine L (D_call (R_callF Tryz.call64 rfl rfl) (c82 _ _ _ _ ) (fun w2 e2 => ?_))
  replace hE := hE.trans e2
  replace hB1 := hB1.ext e2
  refine L (D_v (R_not rfl) ?_)
  refine L (D_v (R_move rfl) ?_)
  refine L (D_g1 rfl rfl (fun hb => R_fieldAddr Tryz.runUnderlying31 rfl Tryz.sizeOf3 rfl) ?_)
  refine L (D_g1 rfl rfl (fun hb => R_load Tryz.isAgg3 hB1 (cgE hb) rfl) ?_)
  refine L (D_gc1 rfl rfl (fun hb => R_callF Tryz.call64 (mapv3 (cgE hb) rfl rfl) rfl) (fun hb => c82 _ _ _ _ ) (fun w3 e3 => ?_))
  replace hE := hE.trans e3
  replace hB1 := hB1.ext e3
  refine L (D_g1 rfl rfl (fun hb => R_not (cgE hb)) ?_)
  refine L (D_v (R_pickO rfl rfl rfl) ?_)
  refine S_nil ?_
  refine T_tn ?_
  refine W_if rfl (fun c4 => ?_) (fun c4 => ?_)
  ·
    refine wp_seq ?_
    refine W_region ?_
    refine L (D_v (R_assign rfl) ?_)
    refine S_nil ?_
    refine T_tn ?_
    refine wp_ret ?_
    refine T_tr ?_
    refine ret1 (v := .bool _) rfl rfl ⟨congrArg (fun b => Ending.returned (Value.bool b)) ?_, hE⟩
    (clear hE hB1; unfold valid at *; (try unfold between at *); generalize decide (a.value = Nm.zero) = z at *; generalize bits BinOp.andNot IntKind.i64 a.support 1023 = s at *; rw [Bool.eq_iff_iff]; (repeat' split) <;> cases z <;> simp at * <;> omega)
  ·
    refine wp_skip ?_
    refine T_tn ?_
    refine wp_seq ?_
    refine wp_seq ?_
    refine W_draw mixed (by kernel_rfl) ?_
    refine Q_v (fun w hw => R_fieldAddr Tryz.runUnderlying31 rfl Tryz.sizeOf3 rfl) ?_
    refine Q_v (fun w hw => R_load Tryz.isAgg3 (hB1.ext hw) rfl rfl) ?_
    refine Q_v (fun w hw => R_eqlI rfl rfl) ?_
    refine Q_v (fun w hw => R_fieldAddr Tryz.runUnderlying31 rfl Tryz.sizeOf29 rfl) ?_
    refine Q_v (fun w hw => R_loadA (c := (a.value).l) Tryz.isAgg29 Tryz.sizeOf29 (hB1.ext hw) rfl rfl rfl) ?_
    refine Q_v (fun w hw => R_build0 Tryz.runUnderlying29 Tryz.sizeOf5 Tryz.zeroValue29) ?_
    refine Q_v (fun w hw => R_eqlA Tryz.eqGuardType29 (eq24 (a.value) (Nm.zero) _) rfl rfl) ?_
    refine Q_v (fun w hw => R_eqlB Tryz.underlying4 rfl rfl) ?_
    refine Q_v (fun w hw => R_move rfl) ?_
    refine Q_g1 rfl rfl (fun hb w hw => R_fieldAddr Tryz.runUnderlying31 rfl Tryz.sizeOf27 rfl) ?_
    refine Q_g1 rfl rfl (fun hb w hw => R_load Tryz.isAgg27 (hB1.ext hw) (cgE hb) rfl) ?_
    refine Q_g1 rfl rfl (fun hb w hw => R_andNotI (cgE hb) rfl) ?_
    refine Q_g1 rfl rfl (fun hb w hw => R_neqI (cgE hb) rfl) ?_
    refine Q_v (fun w hw => R_pickO rfl rfl rfl) ?_
    refine Q_nil (fun w4 e5 => ?_)
    replace hE := hE.trans e5
    replace hB1 := hB1.ext e5
    refine T_tn ?_
    refine W_if rfl (fun c6 => ?_) (fun c6 => ?_)
    ·
      refine wp_seq ?_
      refine W_region ?_
      refine L (D_v (R_assign rfl) ?_)
      refine S_nil ?_
      refine T_tn ?_
      refine wp_ret ?_
      refine T_tr ?_
      refine ret1 (v := .bool _) rfl rfl ⟨congrArg (fun b => Ending.returned (Value.bool b)) ?_, hE⟩
      (clear hE hB1; unfold valid at *; (try unfold between at *); generalize decide (a.value = Nm.zero) = z at *; generalize bits BinOp.andNot IntKind.i64 a.support 1023 = s at *; rw [Bool.eq_iff_iff]; (repeat' split) <;> cases z <;> simp at * <;> omega)
    ·
      refine wp_skip ?_
      refine T_tn ?_
      refine wp_seq ?_
      refine W_draw mixed (by kernel_rfl) ?_
      refine Q_v (fun w hw => R_fieldAddr Tryz.runUnderlying31 rfl Tryz.sizeOf3 rfl) ?_
      refine Q_v (fun w hw => R_load Tryz.isAgg3 (hB1.ext hw) rfl rfl) ?_
      refine Q_v (fun w hw => R_eqlI rfl rfl) ?_
      refine Q_v (fun w hw => R_move rfl) ?_
      refine Q_g1 rfl rfl (fun hb w hw => R_fieldAddr Tryz.runUnderlying31 rfl Tryz.sizeOf27 rfl) ?_
      refine Q_g1 rfl rfl (fun hb w hw => R_load Tryz.isAgg27 (hB1.ext hw) (cgE hb) rfl) ?_
      refine Q_g1 rfl rfl (fun hb w hw => R_eqlI (cgE hb) rfl) ?_
      refine Q_v (fun w hw => R_pickA rfl rfl rfl) ?_
      refine Q_v (fun w hw => R_fieldAddr Tryz.runUnderlying31 rfl Tryz.sizeOf3 rfl) ?_
      refine Q_v (fun w hw => R_load Tryz.isAgg3 (hB1.ext hw) rfl rfl) ?_
      refine Q_v (fun w hw => R_eqlI rfl rfl) ?_
      refine Q_v (fun w hw => R_assign rfl) ?_
      refine Q_v (fun w hw => R_assign rfl) ?_
      refine Q_v (fun w hw => R_assign rfl) ?_
      refine Q_nil (fun w5 e7 => ?_)
      replace hE := hE.trans e7
      replace hB1 := hB1.ext e7
      refine T_tn ?_
      refine wp_seq ?_
      refine wp_seq ?_
      refine W_region ?_
      refine L (D_v (R_fieldAddr Tryz.runUnderlying31 rfl Tryz.sizeOf3 rfl) ?_)
      refine L (D_v (R_load Tryz.isAgg3 hB1 rfl rfl) ?_)
      refine S_nil ?_
      refine T_tn ?_
      refine wp_block ?_
      refine wp_seq ?_
      refine wp_seq ?_
      refine W_region ?_
      refine L (D_v (R_eqlI rfl rfl) ?_)
      refine L (D_v (R_assign rfl) ?_)
      refine S_nil ?_
      refine T_tn ?_
      refine W_if rfl (fun c8 => ?_) (fun c8 => ?_)
      ·
        refine wp_skip ?_
        refine T_tn ?_
        refine W_if rfl (fun c9 => ?_) (fun c9 => ?_)
        ·
          refine W_region ?_
          refine L (D_v (R_assign rfl) ?_)
          refine S_nil ?_
          refine T_bn ?_
          refine T_tn ?_
          refine wp_seq ?_
          refine W_region ?_
          refine L (D_v (R_fieldAddr Tryz.runUnderlying31 rfl Tryz.sizeOf3 rfl) ?_)
          refine L (D_v (R_load Tryz.isAgg3 hB1 rfl rfl) ?_)
          refine L (D_v (R_move rfl) ?_)
          refine L (D_call (R_callF Tryz.call64 rfl rfl) (c82 _ _ _ _ ) (fun w6 e10 => ?_))
          replace hE := hE.trans e10
          replace hB1 := hB1.ext e10
          refine L (D_v (R_move rfl) ?_)
          refine L (D_g1 rfl rfl (fun hb => R_move rfl) ?_)
          refine L (D_v (R_pickA rfl rfl rfl) ?_)
          refine L (D_v (R_move rfl) ?_)
          refine L (D_g1 rfl rfl (fun hb => R_move rfl) ?_)
          refine L (D_v (R_pickA rfl rfl rfl) ?_)
          refine L (D_v (R_assign rfl) ?_)
          refine S_nil ?_
          refine T_tn ?_
          refine wp_ret ?_
          refine ret1 (v := .bool _) rfl rfl ⟨congrArg (fun b => Ending.returned (Value.bool b)) ?_, hE⟩
          (clear hE hB1; unfold valid at *; (try unfold between at *); generalize decide (a.value = Nm.zero) = z at *; generalize bits BinOp.andNot IntKind.i64 a.support 1023 = s at *; rw [Bool.eq_iff_iff]; (repeat' split) <;> cases z <;> simp at * <;> omega)
        ·
          refine wp_seq ?_
          refine W_region ?_
          refine L (D_v (R_eqlI rfl rfl) ?_)
          refine L (D_v (R_assign rfl) ?_)
          refine S_nil ?_
          refine T_tn ?_
          refine W_if rfl (fun c11 => ?_) (fun c11 => ?_)
          ·
            refine wp_seq ?_
            refine W_draw mixed (by kernel_rfl) ?_
            refine Q_v (fun w hw => R_fieldAddr Tryz.runUnderlying31 rfl Tryz.sizeOf3 rfl) ?_
            refine Q_v (fun w hw => R_load Tryz.isAgg3 (hB1.ext hw) rfl rfl) ?_
            refine Q_call (fun w hw => R_callF Tryz.call64 rfl rfl) (fun w hw => c82 _ _ _ _ ) ?_
            refine Q_v (fun w hw => R_fieldAddr Tryz.runUnderlying31 rfl Tryz.sizeOf3 rfl) ?_
            refine Q_v (fun w hw => R_load Tryz.isAgg3 (hB1.ext hw) rfl rfl) ?_
            refine Q_call (fun w hw => R_callF Tryz.call64 rfl rfl) (fun w hw => c82 _ _ _ _ ) ?_
            refine Q_v (fun w hw => R_assign rfl) ?_
            refine Q_v (fun w hw => R_assign rfl) ?_
            refine Q_v (fun w hw => R_assign rfl) ?_
            refine Q_nil (fun w7 e12 => ?_)
            replace hE := hE.trans e12
            replace hB1 := hB1.ext e12
            refine T_tn ?_
            refine W_region ?_
            refine L (D_v (R_move rfl) ?_)
            refine L (D_v (R_move rfl) ?_)
            refine L (D_g1 rfl rfl (fun hb => R_fieldAddr Tryz.runUnderlying31 rfl Tryz.sizeOf3 rfl) ?_)
            refine L (D_g1 rfl rfl (fun hb => R_load Tryz.isAgg3 hB1 (cgE hb) rfl) ?_)
            refine L (D_g1 rfl rfl (fun hb => R_neqI (cgE hb) rfl) ?_)
            refine L (D_g1 rfl rfl (fun hb => R_move (cgE hb)) ?_)
            refine L (D_g2 rfl rfl (fun hg hb => R_fieldAddr Tryz.runUnderlying31 rfl Tryz.sizeOf3 rfl) ?_)
            refine L (D_g2 rfl rfl (fun hg hb => R_load Tryz.isAgg3 hB1 (cgA hg hb) rfl) ?_)
            refine L (D_g2 rfl rfl (fun hg hb => R_neqI (cgA hg hb) rfl) ?_)
            refine L (D_g1 rfl rfl (fun hb => R_pickO (cgE hb) rfl (cgD hb)) ?_)
            refine L (D_g1 rfl rfl (fun hb => R_move (cgE hb)) ?_)
            refine L (D_g2 rfl rfl (fun hg hb => R_fieldAddr Tryz.runUnderlying31 rfl Tryz.sizeOf27 rfl) ?_)
            refine L (D_g2 rfl rfl (fun hg hb => R_load Tryz.isAgg27 hB1 (cgA hg hb) rfl) ?_)
            refine L (D_g2 rfl rfl (fun hg hb => R_eqlI (cgA hg hb) rfl) ?_)
            refine L (D_g1 rfl rfl (fun hb => R_pickO (cgE hb) rfl (cgD hb)) ?_)
            refine L (D_v (R_pickA rfl rfl rfl) ?_)
            refine L (D_v (R_assign rfl) ?_)
            refine S_nil ?_
            refine T_bn ?_
            refine T_tn ?_
            refine wp_seq ?_
            refine W_region ?_
            refine L (D_v (R_fieldAddr Tryz.runUnderlying31 rfl Tryz.sizeOf3 rfl) ?_)
            refine L (D_v (R_load Tryz.isAgg3 hB1 rfl rfl) ?_)
            refine L (D_v (R_move rfl) ?_)
            refine L (D_call (R_callF Tryz.call64 rfl rfl) (c82 _ _ _ _ ) (fun w8 e13 => ?_))
            replace hE := hE.trans e13
            replace hB1 := hB1.ext e13
            refine L (D_v (R_move rfl) ?_)
            refine L (D_g1 rfl rfl (fun hb => R_move rfl) ?_)
            refine L (D_v (R_pickA rfl rfl rfl) ?_)
            refine L (D_v (R_move rfl) ?_)
            refine L (D_g1 rfl rfl (fun hb => R_move rfl) ?_)
            refine L (D_v (R_pickA rfl rfl rfl) ?_)
            refine L (D_v (R_assign rfl) ?_)
            refine S_nil ?_
            refine T_tn ?_
            refine wp_ret ?_
            refine ret1 (v := .bool _) rfl rfl ⟨congrArg (fun b => Ending.returned (Value.bool b)) ?_, hE⟩
            (clear hE hB1; unfold valid at *; (try unfold between at *); generalize decide (a.value = Nm.zero) = z at *; generalize bits BinOp.andNot IntKind.i64 a.support 1023 = s at *; rw [Bool.eq_iff_iff]; (repeat' split) <;> cases z <;> simp at * <;> omega)
          ·
            refine wp_seq ?_
            refine W_region ?_
            refine L (D_v (R_eqlI rfl rfl) ?_)
            refine L (D_v (R_assign rfl) ?_)
            refine S_nil ?_
            refine T_tn ?_
            refine W_if rfl (fun c14 => ?_) (fun c14 => ?_)
            ·
              refine W_draw mixed (by kernel_rfl) ?_
              refine Q_v (fun w hw => R_fieldAddr Tryz.runUnderlying31 rfl Tryz.sizeOf3 rfl) ?_
              refine Q_v (fun w hw => R_load Tryz.isAgg3 (hB1.ext hw) rfl rfl) ?_
              refine Q_call (fun w hw => R_callF Tryz.call64 rfl rfl) (fun w hw => c82 _ _ _ _ ) ?_
              refine Q_v (fun w hw => R_fieldAddr Tryz.runUnderlying31 rfl Tryz.sizeOf3 rfl) ?_
              refine Q_v (fun w hw => R_load Tryz.isAgg3 (hB1.ext hw) rfl rfl) ?_
              refine Q_call (fun w hw => R_callF Tryz.call64 rfl rfl) (fun w hw => c82 _ _ _ _ ) ?_
              refine Q_v (fun w hw => R_assign rfl) ?_
              refine Q_v (fun w hw => R_assign rfl) ?_
              refine Q_v (fun w hw => R_assign rfl) ?_
              refine Q_nil (fun w9 e15 => ?_)
              replace hE := hE.trans e15
              replace hB1 := hB1.ext e15
              refine T_bn ?_
              refine T_tn ?_
              refine wp_seq ?_
              refine W_region ?_
              refine L (D_v (R_fieldAddr Tryz.runUnderlying31 rfl Tryz.sizeOf3 rfl) ?_)
              refine L (D_v (R_load Tryz.isAgg3 hB1 rfl rfl) ?_)
              refine L (D_v (R_move rfl) ?_)
              refine L (D_call (R_callF Tryz.call64 rfl rfl) (c82 _ _ _ _ ) (fun w10 e16 => ?_))
              replace hE := hE.trans e16
              replace hB1 := hB1.ext e16
              refine L (D_v (R_move rfl) ?_)
              refine L (D_g1 rfl rfl (fun hb => R_move rfl) ?_)
              refine L (D_v (R_pickA rfl rfl rfl) ?_)
              refine L (D_v (R_move rfl) ?_)
              refine L (D_g1 rfl rfl (fun hb => R_move rfl) ?_)
              refine L (D_v (R_pickA rfl rfl rfl) ?_)
              refine L (D_v (R_assign rfl) ?_)
              refine S_nil ?_
              refine T_tn ?_
              refine wp_ret ?_
              refine ret1 (v := .bool _) rfl rfl ⟨congrArg (fun b => Ending.returned (Value.bool b)) ?_, hE⟩
              (clear hE hB1; unfold valid at *; (try unfold between at *); generalize decide (a.value = Nm.zero) = z at *; generalize bits BinOp.andNot IntKind.i64 a.support 1023 = s at *; rw [Bool.eq_iff_iff]; (repeat' split) <;> cases z <;> simp at * <;> omega)
            ·
              refine wp_skip ?_
              refine T_bn ?_
              refine T_tn ?_
              refine wp_seq ?_
              refine W_region ?_
              refine L (D_v (R_fieldAddr Tryz.runUnderlying31 rfl Tryz.sizeOf3 rfl) ?_)
              refine L (D_v (R_load Tryz.isAgg3 hB1 rfl rfl) ?_)
              refine L (D_v (R_move rfl) ?_)
              refine L (D_call (R_callF Tryz.call64 rfl rfl) (c82 _ _ _ _ ) (fun w11 e17 => ?_))
              replace hE := hE.trans e17
              replace hB1 := hB1.ext e17
              refine L (D_v (R_move rfl) ?_)
              refine L (D_g1 rfl rfl (fun hb => R_move rfl) ?_)
              refine L (D_v (R_pickA rfl rfl rfl) ?_)
              refine L (D_v (R_move rfl) ?_)
              refine L (D_g1 rfl rfl (fun hb => R_move rfl) ?_)
              refine L (D_v (R_pickA rfl rfl rfl) ?_)
              refine L (D_v (R_assign rfl) ?_)
              refine S_nil ?_
              refine T_tn ?_
              refine wp_ret ?_
              refine ret1 (v := .bool _) rfl rfl ⟨congrArg (fun b => Ending.returned (Value.bool b)) ?_, hE⟩
              (clear hE hB1; unfold valid at *; (try unfold between at *); generalize decide (a.value = Nm.zero) = z at *; generalize bits BinOp.andNot IntKind.i64 a.support 1023 = s at *; rw [Bool.eq_iff_iff]; (repeat' split) <;> cases z <;> simp at * <;> omega)
      ·
        refine W_region ?_
        refine L (D_v (R_eqlI rfl rfl) ?_)
        refine L (D_v (R_assign rfl) ?_)
        refine S_nil ?_
        refine T_tn ?_
        refine W_if rfl (fun c18 => ?_) (fun c18 => ?_)
        ·
          refine W_region ?_
          refine L (D_v (R_assign rfl) ?_)
          refine S_nil ?_
          refine T_bn ?_
          refine T_tn ?_
          refine wp_seq ?_
          refine W_region ?_
          refine L (D_v (R_fieldAddr Tryz.runUnderlying31 rfl Tryz.sizeOf3 rfl) ?_)
          refine L (D_v (R_load Tryz.isAgg3 hB1 rfl rfl) ?_)
          refine L (D_v (R_move rfl) ?_)
          refine L (D_call (R_callF Tryz.call64 rfl rfl) (c82 _ _ _ _ ) (fun w12 e19 => ?_))
          replace hE := hE.trans e19
          replace hB1 := hB1.ext e19
          refine L (D_v (R_move rfl) ?_)
          refine L (D_g1 rfl rfl (fun hb => R_move rfl) ?_)
          refine L (D_v (R_pickA rfl rfl rfl) ?_)
          refine L (D_v (R_move rfl) ?_)
          refine L (D_g1 rfl rfl (fun hb => R_move rfl) ?_)
          refine L (D_v (R_pickA rfl rfl rfl) ?_)
          refine L (D_v (R_assign rfl) ?_)
          refine S_nil ?_
          refine T_tn ?_
          refine wp_ret ?_
          refine ret1 (v := .bool _) rfl rfl ⟨congrArg (fun b => Ending.returned (Value.bool b)) ?_, hE⟩
          (clear hE hB1; unfold valid at *; (try unfold between at *); generalize decide (a.value = Nm.zero) = z at *; generalize bits BinOp.andNot IntKind.i64 a.support 1023 = s at *; rw [Bool.eq_iff_iff]; (repeat' split) <;> cases z <;> simp at * <;> omega)
        ·
          refine wp_seq ?_
          refine W_region ?_
          refine L (D_v (R_eqlI rfl rfl) ?_)
          refine L (D_v (R_assign rfl) ?_)
          refine S_nil ?_
          refine T_tn ?_
          refine W_if rfl (fun c20 => ?_) (fun c20 => ?_)
          ·
            refine wp_seq ?_
            refine W_draw mixed (by kernel_rfl) ?_
            refine Q_v (fun w hw => R_fieldAddr Tryz.runUnderlying31 rfl Tryz.sizeOf3 rfl) ?_
            refine Q_v (fun w hw => R_load Tryz.isAgg3 (hB1.ext hw) rfl rfl) ?_
            refine Q_call (fun w hw => R_callF Tryz.call64 rfl rfl) (fun w hw => c82 _ _ _ _ ) ?_
            refine Q_v (fun w hw => R_fieldAddr Tryz.runUnderlying31 rfl Tryz.sizeOf3 rfl) ?_
            refine Q_v (fun w hw => R_load Tryz.isAgg3 (hB1.ext hw) rfl rfl) ?_
            refine Q_call (fun w hw => R_callF Tryz.call64 rfl rfl) (fun w hw => c82 _ _ _ _ ) ?_
            refine Q_v (fun w hw => R_assign rfl) ?_
            refine Q_v (fun w hw => R_assign rfl) ?_
            refine Q_v (fun w hw => R_assign rfl) ?_
            refine Q_nil (fun w13 e21 => ?_)
            replace hE := hE.trans e21
            replace hB1 := hB1.ext e21
            refine T_tn ?_
            refine W_region ?_
            refine L (D_v (R_move rfl) ?_)
            refine L (D_v (R_move rfl) ?_)
            refine L (D_g1 rfl rfl (fun hb => R_fieldAddr Tryz.runUnderlying31 rfl Tryz.sizeOf3 rfl) ?_)
            refine L (D_g1 rfl rfl (fun hb => R_load Tryz.isAgg3 hB1 (cgE hb) rfl) ?_)
            refine L (D_g1 rfl rfl (fun hb => R_neqI (cgE hb) rfl) ?_)
            refine L (D_g1 rfl rfl (fun hb => R_move (cgE hb)) ?_)
            refine L (D_g2 rfl rfl (fun hg hb => R_fieldAddr Tryz.runUnderlying31 rfl Tryz.sizeOf3 rfl) ?_)
            refine L (D_g2 rfl rfl (fun hg hb => R_load Tryz.isAgg3 hB1 (cgA hg hb) rfl) ?_)
            refine L (D_g2 rfl rfl (fun hg hb => R_neqI (cgA hg hb) rfl) ?_)
            refine L (D_g1 rfl rfl (fun hb => R_pickO (cgE hb) rfl (cgD hb)) ?_)
            refine L (D_g1 rfl rfl (fun hb => R_move (cgE hb)) ?_)
            refine L (D_g2 rfl rfl (fun hg hb => R_fieldAddr Tryz.runUnderlying31 rfl Tryz.sizeOf27 rfl) ?_)
            refine L (D_g2 rfl rfl (fun hg hb => R_load Tryz.isAgg27 hB1 (cgA hg hb) rfl) ?_)
            refine L (D_g2 rfl rfl (fun hg hb => R_eqlI (cgA hg hb) rfl) ?_)
            refine L (D_g1 rfl rfl (fun hb => R_pickO (cgE hb) rfl (cgD hb)) ?_)
            refine L (D_v (R_pickA rfl rfl rfl) ?_)
            refine L (D_v (R_assign rfl) ?_)
            refine S_nil ?_
            refine T_bn ?_
            refine T_tn ?_
            refine wp_seq ?_
            refine W_region ?_
            refine L (D_v (R_fieldAddr Tryz.runUnderlying31 rfl Tryz.sizeOf3 rfl) ?_)
            refine L (D_v (R_load Tryz.isAgg3 hB1 rfl rfl) ?_)
            refine L (D_v (R_move rfl) ?_)
            refine L (D_call (R_callF Tryz.call64 rfl rfl) (c82 _ _ _ _ ) (fun w14 e22 => ?_))
            replace hE := hE.trans e22
            replace hB1 := hB1.ext e22
            refine L (D_v (R_move rfl) ?_)
            refine L (D_g1 rfl rfl (fun hb => R_move rfl) ?_)
            refine L (D_v (R_pickA rfl rfl rfl) ?_)
            refine L (D_v (R_move rfl) ?_)
            refine L (D_g1 rfl rfl (fun hb => R_move rfl) ?_)
            refine L (D_v (R_pickA rfl rfl rfl) ?_)
            refine L (D_v (R_assign rfl) ?_)
            refine S_nil ?_
            refine T_tn ?_
            refine wp_ret ?_
            refine ret1 (v := .bool _) rfl rfl ⟨congrArg (fun b => Ending.returned (Value.bool b)) ?_, hE⟩
            (clear hE hB1; unfold valid at *; (try unfold between at *); generalize decide (a.value = Nm.zero) = z at *; generalize bits BinOp.andNot IntKind.i64 a.support 1023 = s at *; rw [Bool.eq_iff_iff]; (repeat' split) <;> cases z <;> simp at * <;> omega)
          ·
            refine wp_seq ?_
            refine W_region ?_
            refine L (D_v (R_eqlI rfl rfl) ?_)
            refine L (D_v (R_assign rfl) ?_)
            refine S_nil ?_
            refine T_tn ?_
            refine W_if rfl (fun c23 => ?_) (fun c23 => ?_)
            ·
              refine W_draw mixed (by kernel_rfl) ?_
              refine Q_v (fun w hw => R_fieldAddr Tryz.runUnderlying31 rfl Tryz.sizeOf3 rfl) ?_
              refine Q_v (fun w hw => R_load Tryz.isAgg3 (hB1.ext hw) rfl rfl) ?_
              refine Q_call (fun w hw => R_callF Tryz.call64 rfl rfl) (fun w hw => c82 _ _ _ _ ) ?_
              refine Q_v (fun w hw => R_fieldAddr Tryz.runUnderlying31 rfl Tryz.sizeOf3 rfl) ?_
              refine Q_v (fun w hw => R_load Tryz.isAgg3 (hB1.ext hw) rfl rfl) ?_
              refine Q_call (fun w hw => R_callF Tryz.call64 rfl rfl) (fun w hw => c82 _ _ _ _ ) ?_
              refine Q_v (fun w hw => R_assign rfl) ?_
              refine Q_v (fun w hw => R_assign rfl) ?_
              refine Q_v (fun w hw => R_assign rfl) ?_
              refine Q_nil (fun w15 e24 => ?_)
              replace hE := hE.trans e24
              replace hB1 := hB1.ext e24
              refine T_bn ?_
              refine T_tn ?_
              refine wp_seq ?_
              refine W_region ?_
              refine L (D_v (R_fieldAddr Tryz.runUnderlying31 rfl Tryz.sizeOf3 rfl) ?_)
              refine L (D_v (R_load Tryz.isAgg3 hB1 rfl rfl) ?_)
              refine L (D_v (R_move rfl) ?_)
              refine L (D_call (R_callF Tryz.call64 rfl rfl) (c82 _ _ _ _ ) (fun w16 e25 => ?_))
              replace hE := hE.trans e25
              replace hB1 := hB1.ext e25
              refine L (D_v (R_move rfl) ?_)
              refine L (D_g1 rfl rfl (fun hb => R_move rfl) ?_)
              refine L (D_v (R_pickA rfl rfl rfl) ?_)
              refine L (D_v (R_move rfl) ?_)
              refine L (D_g1 rfl rfl (fun hb => R_move rfl) ?_)
              refine L (D_v (R_pickA rfl rfl rfl) ?_)
              refine L (D_v (R_assign rfl) ?_)
              refine S_nil ?_
              refine T_tn ?_
              refine wp_ret ?_
              refine ret1 (v := .bool _) rfl rfl ⟨congrArg (fun b => Ending.returned (Value.bool b)) ?_, hE⟩
              (clear hE hB1; unfold valid at *; (try unfold between at *); generalize decide (a.value = Nm.zero) = z at *; generalize bits BinOp.andNot IntKind.i64 a.support 1023 = s at *; rw [Bool.eq_iff_iff]; (repeat' split) <;> cases z <;> simp at * <;> omega)
            ·
              refine wp_skip ?_
              refine T_bn ?_
              refine T_tn ?_
              refine wp_seq ?_
              refine W_region ?_
              refine L (D_v (R_fieldAddr Tryz.runUnderlying31 rfl Tryz.sizeOf3 rfl) ?_)
              refine L (D_v (R_load Tryz.isAgg3 hB1 rfl rfl) ?_)
              refine L (D_v (R_move rfl) ?_)
              refine L (D_call (R_callF Tryz.call64 rfl rfl) (c82 _ _ _ _ ) (fun w17 e26 => ?_))
              replace hE := hE.trans e26
              replace hB1 := hB1.ext e26
              refine L (D_v (R_move rfl) ?_)
              refine L (D_g1 rfl rfl (fun hb => R_move rfl) ?_)
              refine L (D_v (R_pickA rfl rfl rfl) ?_)
              refine L (D_v (R_move rfl) ?_)
              refine L (D_g1 rfl rfl (fun hb => R_move rfl) ?_)
              refine L (D_v (R_pickA rfl rfl rfl) ?_)
              refine L (D_v (R_assign rfl) ?_)
              refine S_nil ?_
              refine T_tn ?_
              refine wp_ret ?_
              refine ret1 (v := .bool _) rfl rfl ⟨congrArg (fun b => Ending.returned (Value.bool b)) ?_, hE⟩
              (clear hE hB1; unfold valid at *; (try unfold between at *); generalize decide (a.value = Nm.zero) = z at *; generalize bits BinOp.andNot IntKind.i64 a.support 1023 = s at *; rw [Bool.eq_iff_iff]; (repeat' split) <;> cases z <;> simp at * <;> omega)
set_option maxRecDepth 4000 in
set_option maxHeartbeats 1000000 in
theorem c27 (a : Vt) (w : World) : Calls Tryz.prog 33 [a.v].toArray w (Ret w (.bool (valid a))) := by
  refine enter Tryz.func33 Tryz.ntmps33 rfl rfl ?_
  have hE := Ext.refl w
  refine wp_seq ?_
  refine W_region ?_
  refine L (D_box (c := (a).l) (rfl) (fun aB1 w1 e1 gB1 hB1 => ?_))
  replace hE := hE.trans e1
  refine L (D_v (R_assign rfl) ?_)
  refine S_nil ?_
  refine T_tn ?_
  refine wp_seq ?_
  refine wp_seq ?_
  refine W_region ?_
  refine L (D_v (R_fieldAddr Tryz.runUnderlying31 rfl Tryz.sizeOf3 rfl) ?_)
  refine L (D_v (R_load Tryz.isAgg3 hB1 rfl rfl) ?_)
  refine L (D_v (R_lssI rfl rfl) ?_)
  refine L (D_v (R_move rfl) ?_)
  refine L (D_g1 rfl rfl (fun hb => R_fieldAddr Tryz.runUnderlying31 rfl Tryz.sizeOf3 rfl) ?_)
  refine L (D_g1 rfl rfl (fun hb => R_load Tryz.isAgg3 hB1 (cgE hb) rfl) ?_)
  refine L (D_g1 rfl rfl (fun hb => R_gtrI (cgE hb) rfl) ?_)
  refine L (D_v (R_pickO rfl rfl rfl) ?_)
  refine L (D_v (R_move rfl) ?_)
  refine L (D_g1 rfl rfl (fun hb => R_fieldAddr Tryz.runUnderlying31 rfl Tryz.sizeOf3 rfl) ?_)
  refine L (D_g1 rfl rfl (fun hb => R_load Tryz.isAgg3 hB1 (cgE hb) rfl) ?_)
  refine L (D_g1 rfl rfl (fun hb => R_lssI (cgE hb) rfl) ?_)
  refine L (D_v (R_pickO rfl rfl rfl) ?_)
  refine L (D_v (R_move rfl) ?_)
  refine L (D_g1 rfl rfl (fun hb => R_fieldAddr Tryz.runUnderlying31 rfl Tryz.sizeOf3 rfl) ?_)
  refine L (D_g1 rfl rfl (fun hb => R_load Tryz.isAgg3 hB1 (cgE hb) rfl) ?_)
  refine L (D_g1 rfl rfl (fun hb => R_geqI (cgE hb) rfl) ?_)
  refine L (D_v (R_pickO rfl rfl rfl) ?_)
  refine L (D_v (R_move rfl) ?_)
  refine L (D_g1 rfl rfl (fun hb => R_fieldAddr Tryz.runUnderlying31 rfl Tryz.sizeOf27 rfl) ?_)
  refine L (D_g1 rfl rfl (fun hb => R_load Tryz.isAgg27 hB1 (cgE hb) rfl) ?_)
  refine L (D_g1 rfl rfl (fun hb => R_andNotI (cgE hb) rfl) ?_)
  refine L (D_g1 rfl rfl (fun hb => R_neqI (cgE hb) rfl) ?_)
  refine L (D_v (R_pickO rfl rfl rfl) ?_)
  refine S_nil ?_
  refine T_tn ?_
  refine W_if rfl (fun c2 => ?_) (fun c2 => ?_)
  ·
    refine wp_seq ?_
    refine W_region ?_
    refine L (D_v (R_assign rfl) ?_)
    refine S_nil ?_
    refine T_tn ?_
    refine wp_ret ?_
    refine T_tr ?_
    refine ret1 (v := .bool _) rfl rfl ⟨congrArg (fun b => Ending.returned (Value.bool b)) ?_, hE⟩
    (clear hE hB1; unfold valid at *; (try unfold between at *); generalize decide (a.value = Nm.zero) = z at *; generalize bits BinOp.andNot IntKind.i64 a.support 1023 = s at *; rw [Bool.eq_iff_iff]; (repeat' split) <;> cases z <;> simp at * <;> omega)
  ·
    refine wp_skip ?_
    refine T_tn ?_
    refine wp_seq ?_
    refine wp_seq ?_
    refine W_region ?_
    refine L (D_v (R_fieldAddr Tryz.runUnderlying31 rfl Tryz.sizeOf3 rfl) ?_)
    refine L (D_v (R_load Tryz.isAgg3 hB1 rfl rfl) ?_)
    refine L (D_call (R_callF Tryz.call52 rfl rfl) (c83 _ _ ) (fun w2 e3 => ?_))
    replace hE := hE.trans e3
    replace hB1 := hB1.ext e3
    refine L (D_v (R_move rfl) ?_)
    refine L (D_g1 rfl rfl (fun hb => R_fieldAddr Tryz.runUnderlying31 rfl Tryz.sizeOf3 rfl) ?_)
    refine L (D_g1 rfl rfl (fun hb => R_load Tryz.isAgg3 hB1 (cgE hb) rfl) ?_)
    refine L (D_g1 rfl rfl (fun hb => R_lssI (cgE hb) rfl) ?_)
    refine L (D_g1 rfl rfl (fun hb => R_move (cgE hb)) ?_)
    refine L (D_g2 rfl rfl (fun hg hb => R_fieldAddr Tryz.runUnderlying31 rfl Tryz.sizeOf3 rfl) ?_)
    refine L (D_g2 rfl rfl (fun hg hb => R_load Tryz.isAgg3 hB1 (cgA hg hb) rfl) ?_)
    refine L (D_g2 rfl rfl (fun hg hb => R_geqI (cgA hg hb) rfl) ?_)
    refine L (D_g1 rfl rfl (fun hb => R_pickO (cgE hb) rfl (cgD hb)) ?_)
    refine L (D_v (R_pickA rfl rfl rfl) ?_)
    refine L (D_v (R_move rfl) ?_)
    refine L (D_g1 rfl rfl (fun hb => R_fieldAddr Tryz.runUnderlying31 rfl Tryz.sizeOf3 rfl) ?_)
    refine L (D_g1 rfl rfl (fun hb => R_load Tryz.isAgg3 hB1 (cgE hb) rfl) ?_)
    refine L (D_gc1 rfl rfl (fun hb => R_callF Tryz.call52 (mapv1 (cgE hb)) rfl) (fun hb => c83 _ _ ) (fun w3 e4 => ?_))
    replace hE := hE.trans e4
    replace hB1 := hB1.ext e4
    refine L (D_g1 rfl rfl (fun hb => R_not (cgE hb)) ?_)
    refine L (D_g1 rfl rfl (fun hb => R_move (cgE hb)) ?_)
    refine L (D_g2 rfl rfl (fun hg hb => R_fieldAddr Tryz.runUnderlying31 rfl Tryz.sizeOf3 rfl) ?_)
    refine L (D_g2 rfl rfl (fun hg hb => R_load Tryz.isAgg3 hB1 (cgA hg hb) rfl) ?_)
    refine L (D_g2 rfl rfl (fun hg hb => R_neqI (cgA hg hb) rfl) ?_)
    refine L (D_g1 rfl rfl (fun hb => R_pickA (cgE hb) (cgD hb) rfl) ?_)
    refine L (D_v (R_pickO rfl rfl rfl) ?_)
    refine S_nil ?_
    refine T_tn ?_
    refine W_if rfl (fun c5 => ?_) (fun c5 => ?_)
    ·
      refine wp_seq ?_
      refine W_region ?_
      refine L (D_v (R_assign rfl) ?_)
      refine S_nil ?_
      refine T_tn ?_
      refine wp_ret ?_
      refine T_tr ?_
      refine ret1 (v := .bool _) rfl rfl ⟨congrArg (fun b => Ending.returned (Value.bool b)) ?_, hE⟩
      (clear hE hB1; unfold valid at *; (try unfold between at *); generalize decide (a.value = Nm.zero) = z at *; generalize bits BinOp.andNot IntKind.i64 a.support 1023 = s at *; rw [Bool.eq_iff_iff]; (repeat' split) <;> cases z <;> simp at * <;> omega)
    ·
      refine wp_skip ?_
      refine T_tn ?_
      refine wp_seq ?_
      refine wp_seq ?_
      refine W_draw mixed (by kernel_rfl) ?_
      refine Q_v (fun w hw => R_fieldAddr Tryz.runUnderlying31 rfl Tryz.sizeOf29 rfl) ?_
      refine Q_v (fun w hw => R_loadA (c := (a.value).l) Tryz.isAgg29 Tryz.sizeOf29 (hB1.ext hw) rfl rfl rfl) ?_
      refine Q_v (fun w hw => R_build0 Tryz.runUnderlying29 Tryz.sizeOf5 Tryz.zeroValue29) ?_
      refine Q_v (fun w hw => R_eqlA Tryz.eqGuardType29 (eq24 (a.value) (Nm.zero) _) rfl rfl) ?_
      refine Q_v (fun w hw => R_fieldAddr Tryz.runUnderlying31 rfl Tryz.sizeOf3 rfl) ?_
      refine Q_v (fun w hw => R_load Tryz.isAgg3 (hB1.ext hw) rfl rfl) ?_
      refine Q_v (fun w hw => R_eqlI rfl rfl) ?_
      refine Q_v (fun w hw => R_eqlB Tryz.underlying4 rfl rfl) ?_
      refine Q_nil (fun w4 e6 => ?_)
      replace hE := hE.trans e6
      replace hB1 := hB1.ext e6
      refine T_tn ?_
      refine W_if rfl (fun c7 => ?_) (fun c7 => ?_)
      ·
        refine wp_seq ?_
        refine W_region ?_
        refine L (D_v (R_assign rfl) ?_)
        refine S_nil ?_
        refine T_tn ?_
        refine wp_ret ?_
        refine T_tr ?_
        refine ret1 (v := .bool _) rfl rfl ⟨congrArg (fun b => Ending.returned (Value.bool b)) ?_, hE⟩
        (clear hE hB1; unfold valid at *; (try unfold between at *); generalize decide (a.value = Nm.zero) = z at *; generalize bits BinOp.andNot IntKind.i64 a.support 1023 = s at *; rw [Bool.eq_iff_iff]; (repeat' split) <;> cases z <;> simp at * <;> omega)
      ·
        refine wp_skip ?_
        refine T_tn ?_
        refine wp_seq ?_
        refine wp_seq ?_
        refine W_region ?_
        refine L (D_v (R_fieldAddr Tryz.runUnderlying31 rfl Tryz.sizeOf3 rfl) ?_)
        refine L (D_v (R_load Tryz.isAgg3 hB1 rfl rfl) ?_)
        refine S_nil ?_
        refine T_tn ?_
        refine wp_block ?_
        refine wp_seq ?_
        refine W_region ?_
        refine L (D_v (R_eqlI rfl rfl) ?_)
        refine L (D_v (R_assign rfl) ?_)
        refine S_nil ?_
        refine T_tn ?_
        refine W_if rfl (fun c8 => ?_) (fun c8 => ?_)
        ·
          refine wp_seq ?_
          refine W_region ?_
          refine L (D_v (R_fieldAddr Tryz.runUnderlying31 rfl Tryz.sizeOf3 rfl) ?_)
          refine L (D_v (R_load Tryz.isAgg3 hB1 rfl rfl) ?_)
          refine L (D_v (R_geqI rfl rfl) ?_)
          refine L (D_v (R_move rfl) ?_)
          refine L (D_g1 rfl rfl (fun hb => R_fieldAddr Tryz.runUnderlying31 rfl Tryz.sizeOf3 rfl) ?_)
          refine L (D_g1 rfl rfl (fun hb => R_load Tryz.isAgg3 hB1 (cgE hb) rfl) ?_)
          refine L (D_g1 rfl rfl (fun hb => R_leqI (cgE hb) rfl) ?_)
          refine L (D_v (R_pickA rfl rfl rfl) ?_)
          refine L (D_v (R_move rfl) ?_)
          refine L (D_g1 rfl rfl (fun hb => R_fieldAddr Tryz.runUnderlying31 rfl Tryz.sizeOf3 rfl) ?_)
          refine L (D_g1 rfl rfl (fun hb => R_load Tryz.isAgg3 hB1 (cgE hb) rfl) ?_)
          refine L (D_g1 rfl rfl (fun hb => R_eqlI (cgE hb) rfl) ?_)
          refine L (D_g1 rfl rfl (fun hb => R_move (cgE hb)) ?_)
          refine L (D_g2 rfl rfl (fun hg hb => R_fieldAddr Tryz.runUnderlying31 rfl Tryz.sizeOf3 rfl) ?_)
          refine L (D_g2 rfl rfl (fun hg hb => R_load Tryz.isAgg3 hB1 (cgA hg hb) rfl) ?_)
          refine L (D_g2 rfl rfl (fun hg hb => R_eqlI (cgA hg hb) rfl) ?_)
          refine L (D_g1 rfl rfl (fun hb => R_pickO (cgE hb) rfl (cgD hb)) ?_)
          refine L (D_v (R_pickA rfl rfl rfl) ?_)
          refine L (D_v (R_move rfl) ?_)
          refine L (D_g1 rfl rfl (fun hb => R_fieldAddr Tryz.runUnderlying31 rfl Tryz.sizeOf3 rfl) ?_)
          refine L (D_g1 rfl rfl (fun hb => R_load Tryz.isAgg3 hB1 (cgE hb) rfl) ?_)
          refine L (D_g1 rfl rfl (fun hb => R_neqI (cgE hb) rfl) ?_)
          refine L (D_g1 rfl rfl (fun hb => R_move (cgE hb)) ?_)
          refine L (D_g2 rfl rfl (fun hg hb => R_fieldAddr Tryz.runUnderlying31 rfl Tryz.sizeOf3 rfl) ?_)
          refine L (D_g2 rfl rfl (fun hg hb => R_load Tryz.isAgg3 hB1 (cgA hg hb) rfl) ?_)
          refine L (D_g2 rfl rfl (fun hg hb => R_neqI (cgA hg hb) rfl) ?_)
          refine L (D_g1 rfl rfl (fun hb => R_pickO (cgE hb) rfl (cgD hb)) ?_)
          refine L (D_g1 rfl rfl (fun hb => R_move (cgE hb)) ?_)
          refine L (D_g2 rfl rfl (fun hg hb => R_fieldAddr Tryz.runUnderlying31 rfl Tryz.sizeOf27 rfl) ?_)
          refine L (D_g2 rfl rfl (fun hg hb => R_load Tryz.isAgg27 hB1 (cgA hg hb) rfl) ?_)
          refine L (D_g2 rfl rfl (fun hg hb => R_eqlI (cgA hg hb) rfl) ?_)
          refine L (D_g1 rfl rfl (fun hb => R_pickO (cgE hb) rfl (cgD hb)) ?_)
          refine L (D_v (R_pickA rfl rfl rfl) ?_)
          refine L (D_v (R_assign rfl) ?_)
          refine S_nil ?_
          refine T_tn ?_
          refine wp_ret ?_
          refine T_br ?_
          refine T_tr ?_
          refine ret1 (v := .bool _) rfl rfl ⟨congrArg (fun b => Ending.returned (Value.bool b)) ?_, hE⟩
          (clear hE hB1; unfold valid at *; (try unfold between at *); generalize decide (a.value = Nm.zero) = z at *; generalize bits BinOp.andNot IntKind.i64 a.support 1023 = s at *; rw [Bool.eq_iff_iff]; (repeat' split) <;> cases z <;> simp at * <;> omega)
        ·
          refine wp_seq ?_
          refine W_region ?_
          refine L (D_v (R_eqlI rfl rfl) ?_)
          refine L (D_v (R_assign rfl) ?_)
          refine S_nil ?_
          refine T_tn ?_
          refine W_if rfl (fun c9 => ?_) (fun c9 => ?_)
          ·
            refine wp_seq ?_
            refine W_region ?_
            refine L (D_v (R_fieldAddr Tryz.runUnderlying31 rfl Tryz.sizeOf3 rfl) ?_)
            refine L (D_v (R_load Tryz.isAgg3 hB1 rfl rfl) ?_)
            refine L (D_v (R_geqI rfl rfl) ?_)
            refine L (D_v (R_move rfl) ?_)
            refine L (D_g1 rfl rfl (fun hb => R_fieldAddr Tryz.runUnderlying31 rfl Tryz.sizeOf3 rfl) ?_)
            refine L (D_g1 rfl rfl (fun hb => R_load Tryz.isAgg3 hB1 (cgE hb) rfl) ?_)
            refine L (D_g1 rfl rfl (fun hb => R_leqI (cgE hb) rfl) ?_)
            refine L (D_v (R_pickA rfl rfl rfl) ?_)
            refine L (D_v (R_move rfl) ?_)
            refine L (D_g1 rfl rfl (fun hb => R_fieldAddr Tryz.runUnderlying31 rfl Tryz.sizeOf3 rfl) ?_)
            refine L (D_g1 rfl rfl (fun hb => R_load Tryz.isAgg3 hB1 (cgE hb) rfl) ?_)
            refine L (D_g1 rfl rfl (fun hb => R_geqI (cgE hb) rfl) ?_)
            refine L (D_v (R_pickA rfl rfl rfl) ?_)
            refine L (D_v (R_move rfl) ?_)
            refine L (D_g1 rfl rfl (fun hb => R_fieldAddr Tryz.runUnderlying31 rfl Tryz.sizeOf3 rfl) ?_)
            refine L (D_g1 rfl rfl (fun hb => R_load Tryz.isAgg3 hB1 (cgE hb) rfl) ?_)
            refine L (D_g1 rfl rfl (fun hb => R_leqI (cgE hb) rfl) ?_)
            refine L (D_v (R_pickA rfl rfl rfl) ?_)
            refine L (D_v (R_assign rfl) ?_)
            refine S_nil ?_
            refine T_tn ?_
            refine wp_ret ?_
            refine T_br ?_
            refine T_tr ?_
            refine ret1 (v := .bool _) rfl rfl ⟨congrArg (fun b => Ending.returned (Value.bool b)) ?_, hE⟩
            (clear hE hB1; unfold valid at *; (try unfold between at *); generalize decide (a.value = Nm.zero) = z at *; generalize bits BinOp.andNot IntKind.i64 a.support 1023 = s at *; rw [Bool.eq_iff_iff]; (repeat' split) <;> cases z <;> simp at * <;> omega)
          ·
            refine wp_skip ?_
            refine T_bn ?_
            refine T_tn ?_
            refine wp_seq ?_
            refine W_region ?_
            refine L (D_v (R_fieldAddr Tryz.runUnderlying31 rfl Tryz.sizeOf3 rfl) ?_)
            refine L (D_v (R_load Tryz.isAgg3 hB1 rfl rfl) ?_)
            refine L (D_v (R_eqlI rfl rfl) ?_)
            refine L (D_v (R_move rfl) ?_)
            refine L (D_g1 rfl rfl (fun hb => R_fieldAddr Tryz.runUnderlying31 rfl Tryz.sizeOf3 rfl) ?_)
            refine L (D_g1 rfl rfl (fun hb => R_load Tryz.isAgg3 hB1 (cgE hb) rfl) ?_)
            refine L (D_g1 rfl rfl (fun hb => R_eqlI (cgE hb) rfl) ?_)
            refine L (D_v (R_pickA rfl rfl rfl) ?_)
            refine L (D_v (R_move rfl) ?_)
            refine L (D_g1 rfl rfl (fun hb => R_fieldAddr Tryz.runUnderlying31 rfl Tryz.sizeOf27 rfl) ?_)
            refine L (D_g1 rfl rfl (fun hb => R_load Tryz.isAgg27 hB1 (cgE hb) rfl) ?_)
            refine L (D_g1 rfl rfl (fun hb => R_eqlI (cgE hb) rfl) ?_)
            refine L (D_v (R_pickA rfl rfl rfl) ?_)
            refine L (D_v (R_assign rfl) ?_)
            refine S_nil ?_
            refine T_tn ?_
            refine wp_ret ?_
            refine ret1 (v := .bool _) rfl rfl ⟨congrArg (fun b => Ending.returned (Value.bool b)) ?_, hE⟩
            (clear hE hB1; unfold valid at *; (try unfold between at *); generalize decide (a.value = Nm.zero) = z at *; generalize bits BinOp.andNot IntKind.i64 a.support 1023 = s at *; rw [Bool.eq_iff_iff]; (repeat' split) <;> cases z <;> simp at * <;> omega)
set_option maxRecDepth 4000 in
set_option maxHeartbeats 1000000 in
theorem c32 (a b : Vt) (w : World) : Calls Tryz.prog 30 [a.v, b.v].toArray w (Ret w (.bool (conflict a b))) := by
  refine enter Tryz.func30 Tryz.ntmps30 rfl rfl ?_
  have hE := Ext.refl w
  refine wp_seq ?_
  refine W_region ?_
  refine L (D_box (c := (a).l) (rfl) (fun aB1 w1 e1 gB1 hB1 => ?_))
  replace hE := hE.trans e1
  refine L (D_box (c := (b).l) (rfl) (fun aB2 w2 e2 gB2 hB2 => ?_))
  replace hE := hE.trans e2
  replace hB1 := hB1.ext e2
  refine L (D_v (R_assign rfl) ?_)
  refine S_nil ?_
  refine T_tn ?_
  refine wp_seq ?_
  refine W_region ?_
  refine L (D_v (R_loadA (c := (a).l) Tryz.isAgg31 Tryz.sizeOf31 hB1 rfl rfl rfl) ?_)
  refine L (D_call (R_callF Tryz.call33 rfl rfl) (c27 (a) _ ) (fun w3 e3 => ?_))
  replace hE := hE.trans e3
  replace hB1 := hB1.ext e3
  replace hB2 := hB2.ext e3
  refine L (D_v (R_move rfl) ?_)
  refine L (D_g1 rfl rfl (fun hb => R_loadA (c := (b).l) Tryz.isAgg31 Tryz.sizeOf31 hB2 rfl rfl rfl) ?_)
  refine L (D_gc1 rfl rfl (fun hb => R_callF Tryz.call33 (mapv1 (cgE hb)) rfl) (fun hb => c27 (b) _ ) (fun w4 e4 => ?_))
  replace hE := hE.trans e4
  replace hB1 := hB1.ext e4
  replace hB2 := hB2.ext e4
  refine L (D_v (R_pickA rfl rfl rfl) ?_)
  refine L (D_v (R_move rfl) ?_)
  refine L (D_g1 rfl rfl (fun hb => R_loadA (c := (a).l) Tryz.isAgg31 Tryz.sizeOf31 hB1 rfl rfl rfl) ?_)
  refine L (D_g1 rfl rfl (fun hb => R_loadA (c := (b).l) Tryz.isAgg31 Tryz.sizeOf31 hB2 rfl rfl rfl) ?_)
  refine L (D_gc1 rfl rfl (fun hb => R_callF Tryz.call50 (mapv2 (cgE hb) (cgE hb)) rfl) (fun hb => c30 (a) (b) _ ) (fun w5 e5 => ?_))
  replace hE := hE.trans e5
  replace hB1 := hB1.ext e5
  replace hB2 := hB2.ext e5
  refine L (D_v (R_pickA rfl rfl rfl) ?_)
  refine L (D_v (R_move rfl) ?_)
  refine L (D_g1 rfl rfl (fun hb => R_loadA (c := (a).l) Tryz.isAgg31 Tryz.sizeOf31 hB1 rfl rfl rfl) ?_)
  refine L (D_g1 rfl rfl (fun hb => R_loadA (c := (b).l) Tryz.isAgg31 Tryz.sizeOf31 hB2 rfl rfl rfl) ?_)
  refine L (D_g1 rfl rfl (fun hb => R_neqA Tryz.eqGuardType31 (eq26 (a) (b) _) (cgE hb) (cgE hb)) ?_)
  refine L (D_v (R_pickA rfl rfl rfl) ?_)
  refine L (D_v (R_assign rfl) ?_)
  refine S_nil ?_
  refine T_tn ?_
  refine wp_ret ?_
  refine ret1 (v := .bool _) rfl rfl ⟨congrArg (fun b => Ending.returned (Value.bool b)) ?_, hE⟩
  (simp only [conflict]; ac_rfl)
set_option maxRecDepth 4000 in
set_option maxHeartbeats 1000000 in
theorem c33 (a b : Vt) (w : World) : Calls Tryz.prog 28 [a.v, b.v].toArray w (Ret w (.bool (lessV a b))) := by
  refine enter Tryz.func28 Tryz.ntmps28 rfl rfl ?_
  have hE := Ext.refl w
  refine wp_seq ?_
  refine W_region ?_
  refine L (D_box (c := (a).l) (rfl) (fun aB1 w1 e1 gB1 hB1 => ?_))
  have lB1 := Nat.le_trans hE.size gB1
  replace hE := hE.trans e1
  refine L (D_box (c := (b).l) (rfl) (fun aB2 w2 e2 gB2 hB2 => ?_))
  have lB2 := Nat.le_trans hE.size gB2
  have nB1B2 := hB1.ne gB2
  replace hE := hE.trans e2
  replace hB1 := hB1.ext e2
  refine L (D_v (R_assign rfl) ?_)
  refine S_nil ?_
  refine T_tn ?_
  refine wp_seq ?_
  refine wp_seq ?_
  refine W_region ?_
  refine L (D_v (R_fieldAddr Tryz.runUnderlying31 rfl Tryz.sizeOf29 rfl) ?_)
  refine L (D_v (R_loadA (c := (a.parent).l) Tryz.isAgg29 Tryz.sizeOf29 hB1 rfl rfl rfl) ?_)
  refine L (D_v (R_fieldAddr Tryz.runUnderlying31 rfl Tryz.sizeOf29 rfl) ?_)
  refine L (D_v (R_loadA (c := (b.parent).l) Tryz.isAgg29 Tryz.sizeOf29 hB2 rfl rfl rfl) ?_)
  refine L (D_v (R_neqA Tryz.eqGuardType29 (eq24 (a.parent) (b.parent) _) rfl rfl) ?_)
  refine S_nil ?_
  refine T_tn ?_
  refine W_if rfl (fun c3 => ?_) (fun c3 => ?_)
  ·
    refine wp_seq ?_
    refine W_region ?_
    refine L (D_v (R_fieldAddr Tryz.runUnderlying31 rfl Tryz.sizeOf29 rfl) ?_)
    refine L (D_v (R_loadA (c := (a.parent).l) Tryz.isAgg29 Tryz.sizeOf29 hB1 rfl rfl rfl) ?_)
    refine L (D_v (R_fieldAddr Tryz.runUnderlying31 rfl Tryz.sizeOf29 rfl) ?_)
    refine L (D_v (R_loadA (c := (b.parent).l) Tryz.isAgg29 Tryz.sizeOf29 hB2 rfl rfl rfl) ?_)
    refine L (D_call (R_callF Tryz.call49 rfl rfl) (c84 (a.parent) (b.parent) _ ) (fun w3 e4 => ?_))
    replace hE := hE.trans e4
    replace hB1 := hB1.ext e4
    replace hB2 := hB2.ext e4
    refine L (D_v (R_assign rfl) ?_)
    refine S_nil ?_
    refine T_tn ?_
    refine wp_ret ?_
    refine T_tr ?_
    refine ret1 (v := .bool _) rfl rfl ⟨congrArg (fun b => Ending.returned (Value.bool b)) ?_, hE⟩
    (clear hE hB1 hB2; (try clear hB3 hB4); unfold lessV; simp_all [hless])
  ·
    refine wp_skip ?_
    refine T_tn ?_
    refine wp_seq ?_
    refine W_region ?_
    refine L (D_v (R_fieldAddr Tryz.runUnderlying31 rfl Tryz.sizeOf3 rfl) ?_)
    refine L (D_v (R_load Tryz.isAgg3 hB1 rfl rfl) ?_)
    refine L (D_v (R_fieldAddr Tryz.runUnderlying31 rfl Tryz.sizeOf3 rfl) ?_)
    refine L (D_v (R_load Tryz.isAgg3 hB1 rfl rfl) ?_)
    refine L (D_v (R_fieldAddr Tryz.runUnderlying31 rfl Tryz.sizeOf3 rfl) ?_)
    refine L (D_v (R_load Tryz.isAgg3 hB1 rfl rfl) ?_)
    refine L (D_v (R_fieldAddr Tryz.runUnderlying31 rfl Tryz.sizeOf3 rfl) ?_)
    refine L (D_v (R_load Tryz.isAgg3 hB1 rfl rfl) ?_)
    refine L (D_v (R_fieldAddr Tryz.runUnderlying31 rfl Tryz.sizeOf3 rfl) ?_)
    refine L (D_v (R_load Tryz.isAgg3 hB1 rfl rfl) ?_)
    refine L (D_v (R_buildA (vs := [(0, i64 a.slot), (1, i64 a.round), (2, i64 a.kind), (3, i64 a.signer), (4, i64 a.choice)]) (c := [i64 a.slot, i64 a.round, i64 a.kind, i64 a.signer, i64 a.choice]) Tryz.runUnderlying78 Tryz.sizeOf3 Tryz.zeroValue78 rfl (fill92 _ _ _ _ _)) ?_)
    refine L (D_alloc Tryz.zeroValue78 rfl (fun aB3 w4 e5 gB3 hB3 => ?_))
    have lB3 := Nat.le_trans hE.size gB3
    have nB1B3 := hB1.ne gB3
    have nB2B3 := hB2.ne gB3
    replace hE := hE.trans e5
    replace hB1 := hB1.ext e5
    replace hB2 := hB2.ext e5
    refine L (D_storeA Tryz.sizeOf78 hB3 rfl rfl rfl rfl rfl (l' := [i64 a.slot, i64 a.round, i64 a.kind, i64 a.signer, i64 a.choice]) rfl (fun w5 k6 hB3 => ?_))
    replace hE := hE.kp k6 lB3
    replace hB1 := hB1.kp k6 nB1B3
    replace hB2 := hB2.kp k6 nB2B3
    refine S_nil ?_
    refine T_tn ?_
    refine wp_seq ?_
    refine W_region ?_
    refine L (D_v (R_fieldAddr Tryz.runUnderlying31 rfl Tryz.sizeOf3 rfl) ?_)
    refine L (D_v (R_load Tryz.isAgg3 hB2 rfl rfl) ?_)
    refine L (D_v (R_fieldAddr Tryz.runUnderlying31 rfl Tryz.sizeOf3 rfl) ?_)
    refine L (D_v (R_load Tryz.isAgg3 hB2 rfl rfl) ?_)
    refine L (D_v (R_fieldAddr Tryz.runUnderlying31 rfl Tryz.sizeOf3 rfl) ?_)
    refine L (D_v (R_load Tryz.isAgg3 hB2 rfl rfl) ?_)
    refine L (D_v (R_fieldAddr Tryz.runUnderlying31 rfl Tryz.sizeOf3 rfl) ?_)
    refine L (D_v (R_load Tryz.isAgg3 hB2 rfl rfl) ?_)
    refine L (D_v (R_fieldAddr Tryz.runUnderlying31 rfl Tryz.sizeOf3 rfl) ?_)
    refine L (D_v (R_load Tryz.isAgg3 hB2 rfl rfl) ?_)
    refine L (D_v (R_buildA (vs := [(0, i64 b.slot), (1, i64 b.round), (2, i64 b.kind), (3, i64 b.signer), (4, i64 b.choice)]) (c := [i64 b.slot, i64 b.round, i64 b.kind, i64 b.signer, i64 b.choice]) Tryz.runUnderlying78 Tryz.sizeOf3 Tryz.zeroValue78 rfl (fill92 _ _ _ _ _)) ?_)
    refine L (D_alloc Tryz.zeroValue78 rfl (fun aB4 w6 e7 gB4 hB4 => ?_))
    have lB4 := Nat.le_trans hE.size gB4
    have nB1B4 := hB1.ne gB4
    have nB2B4 := hB2.ne gB4
    have nB3B4 := hB3.ne gB4
    replace hE := hE.trans e7
    replace hB1 := hB1.ext e7
    replace hB2 := hB2.ext e7
    replace hB3 := hB3.ext e7
    refine L (D_storeA Tryz.sizeOf78 hB4 rfl rfl rfl rfl rfl (l' := [i64 b.slot, i64 b.round, i64 b.kind, i64 b.signer, i64 b.choice]) rfl (fun w7 k8 hB4 => ?_))
    replace hE := hE.kp k8 lB4
    replace hB1 := hB1.kp k8 nB1B4
    replace hB2 := hB2.kp k8 nB2B4
    replace hB3 := hB3.kp k8 nB3B4
    refine S_nil ?_
    refine T_tn ?_
    refine wp_seq ?_
    refine wp_seq ?_
    refine W_region ?_
    refine L (D_v (R_move rfl) ?_)
    refine S_nil ?_
    refine T_tn ?_
    refine wp_block ?_
    refine W_unroll 5 ?_
    refine W_round ?_
    refine wp_seq ?_
    refine W_region ?_
    refine L (D_v (R_cast (v' := .bool true) (R_lssI rfl rfl) rfl) ?_)
    refine S_nil ?_
    refine T_tn ?_
    refine wp_seq ?_
    refine W_ift rfl ?_
    refine wp_skip ?_
    refine T_tn ?_
    refine wp_seq ?_
    refine wp_block ?_
    refine wp_seq ?_
    refine W_region ?_
    refine L (D_v (R_move rfl) ?_)
    refine L (D_v (R_assign rfl) ?_)
    refine S_nil ?_
    refine T_tn ?_
    refine wp_seq ?_
    refine W_draw mixed (by kernel_rfl) ?_
    refine Q_v (fun w hw => R_move rfl) ?_
    refine Q_v (fun w hw => R_indexAddrA Tryz.runUnderlying78 Tryz.sizeOf3 rfl rfl (by decide) (by decide)) ?_
    refine Q_v (fun w hw => R_load Tryz.isAgg3 (hB3.ext hw) rfl rfl) ?_
    refine Q_v (fun w hw => R_move rfl) ?_
    refine Q_v (fun w hw => R_indexAddrA Tryz.runUnderlying78 Tryz.sizeOf3 rfl rfl (by decide) (by decide)) ?_
    refine Q_v (fun w hw => R_load Tryz.isAgg3 (hB4.ext hw) rfl rfl) ?_
    refine Q_v (fun w hw => R_neqI rfl rfl) ?_
    refine Q_nil (fun w8 e9 => ?_)
    replace hE := hE.trans e9
    replace hB1 := hB1.ext e9
    replace hB2 := hB2.ext e9
    replace hB3 := hB3.ext e9
    replace hB4 := hB4.ext e9
    refine T_tn ?_
    refine W_if rfl (fun c10 => ?_) (fun c10 => ?_)
    ·
      refine wp_seq ?_
      refine W_draw mixed (by kernel_rfl) ?_
      refine Q_v (fun w hw => R_move rfl) ?_
      refine Q_v (fun w hw => R_indexAddrA Tryz.runUnderlying78 Tryz.sizeOf3 rfl rfl (by decide) (by decide)) ?_
      refine Q_v (fun w hw => R_load Tryz.isAgg3 (hB3.ext hw) rfl rfl) ?_
      refine Q_v (fun w hw => R_move rfl) ?_
      refine Q_v (fun w hw => R_indexAddrA Tryz.runUnderlying78 Tryz.sizeOf3 rfl rfl (by decide) (by decide)) ?_
      refine Q_v (fun w hw => R_load Tryz.isAgg3 (hB4.ext hw) rfl rfl) ?_
      refine Q_v (fun w hw => R_lssI rfl rfl) ?_
      refine Q_v (fun w hw => R_assign rfl) ?_
      refine Q_nil (fun w9 e11 => ?_)
      replace hE := hE.trans e11
      replace hB1 := hB1.ext e11
      replace hB2 := hB2.ext e11
      replace hB3 := hB3.ext e11
      replace hB4 := hB4.ext e11
      refine T_tn ?_
      refine wp_ret ?_
      refine T_br ?_
      refine T_tr ?_
      refine T_tr ?_
      refine T_br ?_
      refine T_tr ?_
      refine ret1 (v := .bool _) rfl rfl ⟨congrArg (fun b => Ending.returned (Value.bool b)) ?_, hE⟩
      (clear hE hB1 hB2; (try clear hB3 hB4); unfold lessV; simp_all [hless])
    ·
      refine wp_skip ?_
      refine T_bn ?_
      refine T_tn ?_
      refine W_region ?_
      refine L (D_v (R_cast (v' := .int .i64 (1)) (R_addI rfl rfl) rfl) ?_)
      refine L (D_v (R_move rfl) ?_)
      refine S_nil ?_
      refine T_tn ?_
      refine W_round ?_
      refine wp_seq ?_
      refine W_region ?_
      refine L (D_v (R_cast (v' := .bool true) (R_lssI rfl rfl) rfl) ?_)
      refine S_nil ?_
      refine T_tn ?_
      refine wp_seq ?_
      refine W_ift rfl ?_
      refine wp_skip ?_
      refine T_tn ?_
      refine wp_seq ?_
      refine wp_block ?_
      refine wp_seq ?_
      refine W_region ?_
      refine L (D_v (R_move rfl) ?_)
      refine L (D_v (R_assign rfl) ?_)
      refine S_nil ?_
      refine T_tn ?_
      refine wp_seq ?_
      refine W_draw mixed (by kernel_rfl) ?_
      refine Q_v (fun w hw => R_move rfl) ?_
      refine Q_v (fun w hw => R_indexAddrA Tryz.runUnderlying78 Tryz.sizeOf3 rfl rfl (by decide) (by decide)) ?_
      refine Q_v (fun w hw => R_load Tryz.isAgg3 (hB3.ext hw) rfl rfl) ?_
      refine Q_v (fun w hw => R_move rfl) ?_
      refine Q_v (fun w hw => R_indexAddrA Tryz.runUnderlying78 Tryz.sizeOf3 rfl rfl (by decide) (by decide)) ?_
      refine Q_v (fun w hw => R_load Tryz.isAgg3 (hB4.ext hw) rfl rfl) ?_
      refine Q_v (fun w hw => R_neqI rfl rfl) ?_
      refine Q_nil (fun w10 e12 => ?_)
      replace hE := hE.trans e12
      replace hB1 := hB1.ext e12
      replace hB2 := hB2.ext e12
      replace hB3 := hB3.ext e12
      replace hB4 := hB4.ext e12
      refine T_tn ?_
      refine W_if rfl (fun c13 => ?_) (fun c13 => ?_)
      ·
        refine wp_seq ?_
        refine W_draw mixed (by kernel_rfl) ?_
        refine Q_v (fun w hw => R_move rfl) ?_
        refine Q_v (fun w hw => R_indexAddrA Tryz.runUnderlying78 Tryz.sizeOf3 rfl rfl (by decide) (by decide)) ?_
        refine Q_v (fun w hw => R_load Tryz.isAgg3 (hB3.ext hw) rfl rfl) ?_
        refine Q_v (fun w hw => R_move rfl) ?_
        refine Q_v (fun w hw => R_indexAddrA Tryz.runUnderlying78 Tryz.sizeOf3 rfl rfl (by decide) (by decide)) ?_
        refine Q_v (fun w hw => R_load Tryz.isAgg3 (hB4.ext hw) rfl rfl) ?_
        refine Q_v (fun w hw => R_lssI rfl rfl) ?_
        refine Q_v (fun w hw => R_assign rfl) ?_
        refine Q_nil (fun w11 e14 => ?_)
        replace hE := hE.trans e14
        replace hB1 := hB1.ext e14
        replace hB2 := hB2.ext e14
        replace hB3 := hB3.ext e14
        replace hB4 := hB4.ext e14
        refine T_tn ?_
        refine wp_ret ?_
        refine T_br ?_
        refine T_tr ?_
        refine T_tr ?_
        refine T_br ?_
        refine T_tr ?_
        refine ret1 (v := .bool _) rfl rfl ⟨congrArg (fun b => Ending.returned (Value.bool b)) ?_, hE⟩
        (clear hE hB1 hB2; (try clear hB3 hB4); unfold lessV; simp_all [hless])
      ·
        refine wp_skip ?_
        refine T_bn ?_
        refine T_tn ?_
        refine W_region ?_
        refine L (D_v (R_cast (v' := .int .i64 (2)) (R_addI rfl rfl) rfl) ?_)
        refine L (D_v (R_move rfl) ?_)
        refine S_nil ?_
        refine T_tn ?_
        refine W_round ?_
        refine wp_seq ?_
        refine W_region ?_
        refine L (D_v (R_cast (v' := .bool true) (R_lssI rfl rfl) rfl) ?_)
        refine S_nil ?_
        refine T_tn ?_
        refine wp_seq ?_
        refine W_ift rfl ?_
        refine wp_skip ?_
        refine T_tn ?_
        refine wp_seq ?_
        refine wp_block ?_
        refine wp_seq ?_
        refine W_region ?_
        refine L (D_v (R_move rfl) ?_)
        refine L (D_v (R_assign rfl) ?_)
        refine S_nil ?_
        refine T_tn ?_
        refine wp_seq ?_
        refine W_draw mixed (by kernel_rfl) ?_
        refine Q_v (fun w hw => R_move rfl) ?_
        refine Q_v (fun w hw => R_indexAddrA Tryz.runUnderlying78 Tryz.sizeOf3 rfl rfl (by decide) (by decide)) ?_
        refine Q_v (fun w hw => R_load Tryz.isAgg3 (hB3.ext hw) rfl rfl) ?_
        refine Q_v (fun w hw => R_move rfl) ?_
        refine Q_v (fun w hw => R_indexAddrA Tryz.runUnderlying78 Tryz.sizeOf3 rfl rfl (by decide) (by decide)) ?_
        refine Q_v (fun w hw => R_load Tryz.isAgg3 (hB4.ext hw) rfl rfl) ?_
        refine Q_v (fun w hw => R_neqI rfl rfl) ?_
        refine Q_nil (fun w12 e15 => ?_)
        replace hE := hE.trans e15
        replace hB1 := hB1.ext e15
        replace hB2 := hB2.ext e15
        replace hB3 := hB3.ext e15
        replace hB4 := hB4.ext e15
        refine T_tn ?_
        refine W_if rfl (fun c16 => ?_) (fun c16 => ?_)
        ·
          refine wp_seq ?_
          refine W_draw mixed (by kernel_rfl) ?_
          refine Q_v (fun w hw => R_move rfl) ?_
          refine Q_v (fun w hw => R_indexAddrA Tryz.runUnderlying78 Tryz.sizeOf3 rfl rfl (by decide) (by decide)) ?_
          refine Q_v (fun w hw => R_load Tryz.isAgg3 (hB3.ext hw) rfl rfl) ?_
          refine Q_v (fun w hw => R_move rfl) ?_
          refine Q_v (fun w hw => R_indexAddrA Tryz.runUnderlying78 Tryz.sizeOf3 rfl rfl (by decide) (by decide)) ?_
          refine Q_v (fun w hw => R_load Tryz.isAgg3 (hB4.ext hw) rfl rfl) ?_
          refine Q_v (fun w hw => R_lssI rfl rfl) ?_
          refine Q_v (fun w hw => R_assign rfl) ?_
          refine Q_nil (fun w13 e17 => ?_)
          replace hE := hE.trans e17
          replace hB1 := hB1.ext e17
          replace hB2 := hB2.ext e17
          replace hB3 := hB3.ext e17
          replace hB4 := hB4.ext e17
          refine T_tn ?_
          refine wp_ret ?_
          refine T_br ?_
          refine T_tr ?_
          refine T_tr ?_
          refine T_br ?_
          refine T_tr ?_
          refine ret1 (v := .bool _) rfl rfl ⟨congrArg (fun b => Ending.returned (Value.bool b)) ?_, hE⟩
          (clear hE hB1 hB2; (try clear hB3 hB4); unfold lessV; simp_all [hless])
        ·
          refine wp_skip ?_
          refine T_bn ?_
          refine T_tn ?_
          refine W_region ?_
          refine L (D_v (R_cast (v' := .int .i64 (3)) (R_addI rfl rfl) rfl) ?_)
          refine L (D_v (R_move rfl) ?_)
          refine S_nil ?_
          refine T_tn ?_
          refine W_round ?_
          refine wp_seq ?_
          refine W_region ?_
          refine L (D_v (R_cast (v' := .bool true) (R_lssI rfl rfl) rfl) ?_)
          refine S_nil ?_
          refine T_tn ?_
          refine wp_seq ?_
          refine W_ift rfl ?_
          refine wp_skip ?_
          refine T_tn ?_
          refine wp_seq ?_
          refine wp_block ?_
          refine wp_seq ?_
          refine W_region ?_
          refine L (D_v (R_move rfl) ?_)
          refine L (D_v (R_assign rfl) ?_)
          refine S_nil ?_
          refine T_tn ?_
          refine wp_seq ?_
          refine W_draw mixed (by kernel_rfl) ?_
          refine Q_v (fun w hw => R_move rfl) ?_
          refine Q_v (fun w hw => R_indexAddrA Tryz.runUnderlying78 Tryz.sizeOf3 rfl rfl (by decide) (by decide)) ?_
          refine Q_v (fun w hw => R_load Tryz.isAgg3 (hB3.ext hw) rfl rfl) ?_
          refine Q_v (fun w hw => R_move rfl) ?_
          refine Q_v (fun w hw => R_indexAddrA Tryz.runUnderlying78 Tryz.sizeOf3 rfl rfl (by decide) (by decide)) ?_
          refine Q_v (fun w hw => R_load Tryz.isAgg3 (hB4.ext hw) rfl rfl) ?_
          refine Q_v (fun w hw => R_neqI rfl rfl) ?_
          refine Q_nil (fun w14 e18 => ?_)
          replace hE := hE.trans e18
          replace hB1 := hB1.ext e18
          replace hB2 := hB2.ext e18
          replace hB3 := hB3.ext e18
          replace hB4 := hB4.ext e18
          refine T_tn ?_
          refine W_if rfl (fun c19 => ?_) (fun c19 => ?_)
          ·
            refine wp_seq ?_
            refine W_draw mixed (by kernel_rfl) ?_
            refine Q_v (fun w hw => R_move rfl) ?_
            refine Q_v (fun w hw => R_indexAddrA Tryz.runUnderlying78 Tryz.sizeOf3 rfl rfl (by decide) (by decide)) ?_
            refine Q_v (fun w hw => R_load Tryz.isAgg3 (hB3.ext hw) rfl rfl) ?_
            refine Q_v (fun w hw => R_move rfl) ?_
            refine Q_v (fun w hw => R_indexAddrA Tryz.runUnderlying78 Tryz.sizeOf3 rfl rfl (by decide) (by decide)) ?_
            refine Q_v (fun w hw => R_load Tryz.isAgg3 (hB4.ext hw) rfl rfl) ?_
            refine Q_v (fun w hw => R_lssI rfl rfl) ?_
            refine Q_v (fun w hw => R_assign rfl) ?_
            refine Q_nil (fun w15 e20 => ?_)
            replace hE := hE.trans e20
            replace hB1 := hB1.ext e20
            replace hB2 := hB2.ext e20
            replace hB3 := hB3.ext e20
            replace hB4 := hB4.ext e20
            refine T_tn ?_
            refine wp_ret ?_
            refine T_br ?_
            refine T_tr ?_
            refine T_tr ?_
            refine T_br ?_
            refine T_tr ?_
            refine ret1 (v := .bool _) rfl rfl ⟨congrArg (fun b => Ending.returned (Value.bool b)) ?_, hE⟩
            (clear hE hB1 hB2; (try clear hB3 hB4); unfold lessV; simp_all [hless])
          ·
            refine wp_skip ?_
            refine T_bn ?_
            refine T_tn ?_
            refine W_region ?_
            refine L (D_v (R_cast (v' := .int .i64 (4)) (R_addI rfl rfl) rfl) ?_)
            refine L (D_v (R_move rfl) ?_)
            refine S_nil ?_
            refine T_tn ?_
            refine W_round ?_
            refine wp_seq ?_
            refine W_region ?_
            refine L (D_v (R_cast (v' := .bool true) (R_lssI rfl rfl) rfl) ?_)
            refine S_nil ?_
            refine T_tn ?_
            refine wp_seq ?_
            refine W_ift rfl ?_
            refine wp_skip ?_
            refine T_tn ?_
            refine wp_seq ?_
            refine wp_block ?_
            refine wp_seq ?_
            refine W_region ?_
            refine L (D_v (R_move rfl) ?_)
            refine L (D_v (R_assign rfl) ?_)
            refine S_nil ?_
            refine T_tn ?_
            refine wp_seq ?_
            refine W_draw mixed (by kernel_rfl) ?_
            refine Q_v (fun w hw => R_move rfl) ?_
            refine Q_v (fun w hw => R_indexAddrA Tryz.runUnderlying78 Tryz.sizeOf3 rfl rfl (by decide) (by decide)) ?_
            refine Q_v (fun w hw => R_load Tryz.isAgg3 (hB3.ext hw) rfl rfl) ?_
            refine Q_v (fun w hw => R_move rfl) ?_
            refine Q_v (fun w hw => R_indexAddrA Tryz.runUnderlying78 Tryz.sizeOf3 rfl rfl (by decide) (by decide)) ?_
            refine Q_v (fun w hw => R_load Tryz.isAgg3 (hB4.ext hw) rfl rfl) ?_
            refine Q_v (fun w hw => R_neqI rfl rfl) ?_
            refine Q_nil (fun w16 e21 => ?_)
            replace hE := hE.trans e21
            replace hB1 := hB1.ext e21
            replace hB2 := hB2.ext e21
            replace hB3 := hB3.ext e21
            replace hB4 := hB4.ext e21
            refine T_tn ?_
            refine W_if rfl (fun c22 => ?_) (fun c22 => ?_)
            ·
              refine wp_seq ?_
              refine W_draw mixed (by kernel_rfl) ?_
              refine Q_v (fun w hw => R_move rfl) ?_
              refine Q_v (fun w hw => R_indexAddrA Tryz.runUnderlying78 Tryz.sizeOf3 rfl rfl (by decide) (by decide)) ?_
              refine Q_v (fun w hw => R_load Tryz.isAgg3 (hB3.ext hw) rfl rfl) ?_
              refine Q_v (fun w hw => R_move rfl) ?_
              refine Q_v (fun w hw => R_indexAddrA Tryz.runUnderlying78 Tryz.sizeOf3 rfl rfl (by decide) (by decide)) ?_
              refine Q_v (fun w hw => R_load Tryz.isAgg3 (hB4.ext hw) rfl rfl) ?_
              refine Q_v (fun w hw => R_lssI rfl rfl) ?_
              refine Q_v (fun w hw => R_assign rfl) ?_
              refine Q_nil (fun w17 e23 => ?_)
              replace hE := hE.trans e23
              replace hB1 := hB1.ext e23
              replace hB2 := hB2.ext e23
              replace hB3 := hB3.ext e23
              replace hB4 := hB4.ext e23
              refine T_tn ?_
              refine wp_ret ?_
              refine T_br ?_
              refine T_tr ?_
              refine T_tr ?_
              refine T_br ?_
              refine T_tr ?_
              refine ret1 (v := .bool _) rfl rfl ⟨congrArg (fun b => Ending.returned (Value.bool b)) ?_, hE⟩
              (clear hE hB1 hB2; (try clear hB3 hB4); unfold lessV; simp_all [hless])
            ·
              refine wp_skip ?_
              refine T_bn ?_
              refine T_tn ?_
              refine W_region ?_
              refine L (D_v (R_cast (v' := .int .i64 (5)) (R_addI rfl rfl) rfl) ?_)
              refine L (D_v (R_move rfl) ?_)
              refine S_nil ?_
              refine T_tn ?_
              refine W_round ?_
              refine wp_seq ?_
              refine W_region ?_
              refine L (D_v (R_cast (v' := .bool false) (R_lssI rfl rfl) rfl) ?_)
              refine S_nil ?_
              refine T_tn ?_
              refine wp_seq ?_
              refine W_iff rfl ?_
              refine wp_exit ?_
              refine T_te ?_
              refine T_te ?_
              refine T_be ?_
              refine T_tn ?_
              refine wp_seq ?_
              refine wp_seq ?_
              refine W_region ?_
              refine L (D_v (R_fieldAddr Tryz.runUnderlying31 rfl Tryz.sizeOf29 rfl) ?_)
              refine L (D_v (R_loadA (c := (a.value).l) Tryz.isAgg29 Tryz.sizeOf29 hB1 rfl rfl rfl) ?_)
              refine L (D_v (R_fieldAddr Tryz.runUnderlying31 rfl Tryz.sizeOf29 rfl) ?_)
              refine L (D_v (R_loadA (c := (b.value).l) Tryz.isAgg29 Tryz.sizeOf29 hB2 rfl rfl rfl) ?_)
              refine L (D_v (R_neqA Tryz.eqGuardType29 (eq24 (a.value) (b.value) _) rfl rfl) ?_)
              refine S_nil ?_
              refine T_tn ?_
              refine W_if rfl (fun c24 => ?_) (fun c24 => ?_)
              ·
                refine wp_seq ?_
                refine W_region ?_
                refine L (D_v (R_fieldAddr Tryz.runUnderlying31 rfl Tryz.sizeOf29 rfl) ?_)
                refine L (D_v (R_loadA (c := (a.value).l) Tryz.isAgg29 Tryz.sizeOf29 hB1 rfl rfl rfl) ?_)
                refine L (D_v (R_fieldAddr Tryz.runUnderlying31 rfl Tryz.sizeOf29 rfl) ?_)
                refine L (D_v (R_loadA (c := (b.value).l) Tryz.isAgg29 Tryz.sizeOf29 hB2 rfl rfl rfl) ?_)
                refine L (D_call (R_callF Tryz.call49 rfl rfl) (c84 (a.value) (b.value) _ ) (fun w18 e25 => ?_))
                replace hE := hE.trans e25
                replace hB1 := hB1.ext e25
                replace hB2 := hB2.ext e25
                replace hB3 := hB3.ext e25
                replace hB4 := hB4.ext e25
                refine L (D_v (R_assign rfl) ?_)
                refine S_nil ?_
                refine T_tn ?_
                refine wp_ret ?_
                refine T_tr ?_
                refine ret1 (v := .bool _) rfl rfl ⟨congrArg (fun b => Ending.returned (Value.bool b)) ?_, hE⟩
                (clear hE hB1 hB2; (try clear hB3 hB4); unfold lessV; simp_all [hless])
              ·
                refine wp_skip ?_
                refine T_tn ?_
                refine wp_seq ?_
                refine W_region ?_
                refine L (D_v (R_fieldAddr Tryz.runUnderlying31 rfl Tryz.sizeOf27 rfl) ?_)
                refine L (D_v (R_load Tryz.isAgg27 hB1 rfl rfl) ?_)
                refine L (D_v (R_fieldAddr Tryz.runUnderlying31 rfl Tryz.sizeOf27 rfl) ?_)
                refine L (D_v (R_load Tryz.isAgg27 hB2 rfl rfl) ?_)
                refine L (D_v (R_lssI rfl rfl) ?_)
                refine L (D_v (R_assign rfl) ?_)
                refine S_nil ?_
                refine T_tn ?_
                refine wp_ret ?_
                refine ret1 (v := .bool _) rfl rfl ⟨congrArg (fun b => Ending.returned (Value.bool b)) ?_, hE⟩
                (clear hE hB1 hB2; (try clear hB3 hB4); unfold lessV; simp_all [hless])
set_option maxRecDepth 4000 in
set_option maxHeartbeats 1000000 in
theorem c34 (a b : Vt) (w : World) : Calls Tryz.prog 44 [a.v, b.v].toArray w (Ret w (.bool (lessV a b))) := by
  refine enter Tryz.func44 Tryz.ntmps44 rfl rfl ?_
  have hE := Ext.refl w
  refine wp_seq ?_
  refine W_region ?_
  refine L (D_box (c := (a).l) (rfl) (fun aB1 w1 e1 gB1 hB1 => ?_))
  have lB1 := Nat.le_trans hE.size gB1
  replace hE := hE.trans e1
  refine L (D_box (c := (b).l) (rfl) (fun aB2 w2 e2 gB2 hB2 => ?_))
  have lB2 := Nat.le_trans hE.size gB2
  have nB1B2 := hB1.ne gB2
  replace hE := hE.trans e2
  replace hB1 := hB1.ext e2
  refine L (D_v (R_assign rfl) ?_)
  refine S_nil ?_
  refine T_tn ?_
  refine wp_seq ?_
  refine wp_seq ?_
  refine W_region ?_
  refine L (D_v (R_fieldAddr Tryz.runUnderlying31 rfl Tryz.sizeOf29 rfl) ?_)
  refine L (D_v (R_loadA (c := (a.parent).l) Tryz.isAgg29 Tryz.sizeOf29 hB1 rfl rfl rfl) ?_)
  refine L (D_v (R_fieldAddr Tryz.runUnderlying31 rfl Tryz.sizeOf29 rfl) ?_)
  refine L (D_v (R_loadA (c := (b.parent).l) Tryz.isAgg29 Tryz.sizeOf29 hB2 rfl rfl rfl) ?_)
  refine L (D_v (R_neqA Tryz.eqGuardType29 (eq24 (a.parent) (b.parent) _) rfl rfl) ?_)
  refine S_nil ?_
  refine T_tn ?_
  refine W_if rfl (fun c3 => ?_) (fun c3 => ?_)
  ·
    refine wp_seq ?_
    refine W_region ?_
    refine L (D_v (R_fieldAddr Tryz.runUnderlying31 rfl Tryz.sizeOf29 rfl) ?_)
    refine L (D_v (R_loadA (c := (a.parent).l) Tryz.isAgg29 Tryz.sizeOf29 hB1 rfl rfl rfl) ?_)
    refine L (D_v (R_fieldAddr Tryz.runUnderlying31 rfl Tryz.sizeOf29 rfl) ?_)
    refine L (D_v (R_loadA (c := (b.parent).l) Tryz.isAgg29 Tryz.sizeOf29 hB2 rfl rfl rfl) ?_)
    refine L (D_call (R_callF Tryz.call79 rfl rfl) (c85 (a.parent) (b.parent) _ ) (fun w3 e4 => ?_))
    replace hE := hE.trans e4
    replace hB1 := hB1.ext e4
    replace hB2 := hB2.ext e4
    refine L (D_v (R_assign rfl) ?_)
    refine S_nil ?_
    refine T_tn ?_
    refine wp_ret ?_
    refine T_tr ?_
    refine ret1 (v := .bool _) rfl rfl ⟨congrArg (fun b => Ending.returned (Value.bool b)) ?_, hE⟩
    (clear hE hB1 hB2; (try clear hB3 hB4); unfold lessV; simp_all [hless])
  ·
    refine wp_skip ?_
    refine T_tn ?_
    refine wp_seq ?_
    refine W_region ?_
    refine L (D_v (R_fieldAddr Tryz.runUnderlying31 rfl Tryz.sizeOf3 rfl) ?_)
    refine L (D_v (R_load Tryz.isAgg3 hB1 rfl rfl) ?_)
    refine L (D_v (R_fieldAddr Tryz.runUnderlying31 rfl Tryz.sizeOf3 rfl) ?_)
    refine L (D_v (R_load Tryz.isAgg3 hB1 rfl rfl) ?_)
    refine L (D_v (R_fieldAddr Tryz.runUnderlying31 rfl Tryz.sizeOf3 rfl) ?_)
    refine L (D_v (R_load Tryz.isAgg3 hB1 rfl rfl) ?_)
    refine L (D_v (R_fieldAddr Tryz.runUnderlying31 rfl Tryz.sizeOf3 rfl) ?_)
    refine L (D_v (R_load Tryz.isAgg3 hB1 rfl rfl) ?_)
    refine L (D_v (R_fieldAddr Tryz.runUnderlying31 rfl Tryz.sizeOf3 rfl) ?_)
    refine L (D_v (R_load Tryz.isAgg3 hB1 rfl rfl) ?_)
    refine L (D_v (R_buildA (vs := [(0, i64 a.slot), (1, i64 a.round), (2, i64 a.kind), (3, i64 a.signer), (4, i64 a.choice)]) (c := [i64 a.slot, i64 a.round, i64 a.kind, i64 a.signer, i64 a.choice]) Tryz.runUnderlying78 Tryz.sizeOf3 Tryz.zeroValue78 rfl (fill92 _ _ _ _ _)) ?_)
    refine L (D_alloc Tryz.zeroValue78 rfl (fun aB3 w4 e5 gB3 hB3 => ?_))
    have lB3 := Nat.le_trans hE.size gB3
    have nB1B3 := hB1.ne gB3
    have nB2B3 := hB2.ne gB3
    replace hE := hE.trans e5
    replace hB1 := hB1.ext e5
    replace hB2 := hB2.ext e5
    refine L (D_storeA Tryz.sizeOf78 hB3 rfl rfl rfl rfl rfl (l' := [i64 a.slot, i64 a.round, i64 a.kind, i64 a.signer, i64 a.choice]) rfl (fun w5 k6 hB3 => ?_))
    replace hE := hE.kp k6 lB3
    replace hB1 := hB1.kp k6 nB1B3
    replace hB2 := hB2.kp k6 nB2B3
    refine S_nil ?_
    refine T_tn ?_
    refine wp_seq ?_
    refine W_region ?_
    refine L (D_v (R_fieldAddr Tryz.runUnderlying31 rfl Tryz.sizeOf3 rfl) ?_)
    refine L (D_v (R_load Tryz.isAgg3 hB2 rfl rfl) ?_)
    refine L (D_v (R_fieldAddr Tryz.runUnderlying31 rfl Tryz.sizeOf3 rfl) ?_)
    refine L (D_v (R_load Tryz.isAgg3 hB2 rfl rfl) ?_)
    refine L (D_v (R_fieldAddr Tryz.runUnderlying31 rfl Tryz.sizeOf3 rfl) ?_)
    refine L (D_v (R_load Tryz.isAgg3 hB2 rfl rfl) ?_)
    refine L (D_v (R_fieldAddr Tryz.runUnderlying31 rfl Tryz.sizeOf3 rfl) ?_)
    refine L (D_v (R_load Tryz.isAgg3 hB2 rfl rfl) ?_)
    refine L (D_v (R_fieldAddr Tryz.runUnderlying31 rfl Tryz.sizeOf3 rfl) ?_)
    refine L (D_v (R_load Tryz.isAgg3 hB2 rfl rfl) ?_)
    refine L (D_v (R_buildA (vs := [(0, i64 b.slot), (1, i64 b.round), (2, i64 b.kind), (3, i64 b.signer), (4, i64 b.choice)]) (c := [i64 b.slot, i64 b.round, i64 b.kind, i64 b.signer, i64 b.choice]) Tryz.runUnderlying78 Tryz.sizeOf3 Tryz.zeroValue78 rfl (fill92 _ _ _ _ _)) ?_)
    refine L (D_alloc Tryz.zeroValue78 rfl (fun aB4 w6 e7 gB4 hB4 => ?_))
    have lB4 := Nat.le_trans hE.size gB4
    have nB1B4 := hB1.ne gB4
    have nB2B4 := hB2.ne gB4
    have nB3B4 := hB3.ne gB4
    replace hE := hE.trans e7
    replace hB1 := hB1.ext e7
    replace hB2 := hB2.ext e7
    replace hB3 := hB3.ext e7
    refine L (D_storeA Tryz.sizeOf78 hB4 rfl rfl rfl rfl rfl (l' := [i64 b.slot, i64 b.round, i64 b.kind, i64 b.signer, i64 b.choice]) rfl (fun w7 k8 hB4 => ?_))
    replace hE := hE.kp k8 lB4
    replace hB1 := hB1.kp k8 nB1B4
    replace hB2 := hB2.kp k8 nB2B4
    replace hB3 := hB3.kp k8 nB3B4
    refine S_nil ?_
    refine T_tn ?_
    refine wp_seq ?_
    refine wp_seq ?_
    refine W_region ?_
    refine L (D_v (R_assign rfl) ?_)
    refine S_nil ?_
    refine T_tn ?_
    refine wp_block ?_
    refine W_unroll 5 ?_
    refine W_round ?_
    refine wp_seq ?_
    refine wp_seq ?_
    refine W_region ?_
    refine L (D_v (R_move rfl) ?_)
    refine L (D_v (R_cast (v' := .bool true) (R_lssI rfl rfl) rfl) ?_)
    refine S_nil ?_
    refine T_tn ?_
    refine W_ift rfl ?_
    refine wp_skip ?_
    refine T_tn ?_
    refine wp_seq ?_
    refine wp_block ?_
    refine wp_seq ?_
    refine W_draw mixed (by kernel_rfl) ?_
    refine Q_v (fun w hw => R_move rfl) ?_
    refine Q_v (fun w hw => R_indexAddrA Tryz.runUnderlying78 Tryz.sizeOf3 rfl rfl (by decide) (by decide)) ?_
    refine Q_v (fun w hw => R_load Tryz.isAgg3 (hB3.ext hw) rfl rfl) ?_
    refine Q_v (fun w hw => R_move rfl) ?_
    refine Q_v (fun w hw => R_indexAddrA Tryz.runUnderlying78 Tryz.sizeOf3 rfl rfl (by decide) (by decide)) ?_
    refine Q_v (fun w hw => R_load Tryz.isAgg3 (hB4.ext hw) rfl rfl) ?_
    refine Q_v (fun w hw => R_neqI rfl rfl) ?_
    refine Q_nil (fun w8 e9 => ?_)
    replace hE := hE.trans e9
    replace hB1 := hB1.ext e9
    replace hB2 := hB2.ext e9
    replace hB3 := hB3.ext e9
    replace hB4 := hB4.ext e9
    refine T_tn ?_
    refine W_if rfl (fun c10 => ?_) (fun c10 => ?_)
    ·
      refine wp_seq ?_
      refine W_draw mixed (by kernel_rfl) ?_
      refine Q_v (fun w hw => R_move rfl) ?_
      refine Q_v (fun w hw => R_indexAddrA Tryz.runUnderlying78 Tryz.sizeOf3 rfl rfl (by decide) (by decide)) ?_
      refine Q_v (fun w hw => R_load Tryz.isAgg3 (hB3.ext hw) rfl rfl) ?_
      refine Q_v (fun w hw => R_move rfl) ?_
      refine Q_v (fun w hw => R_indexAddrA Tryz.runUnderlying78 Tryz.sizeOf3 rfl rfl (by decide) (by decide)) ?_
      refine Q_v (fun w hw => R_load Tryz.isAgg3 (hB4.ext hw) rfl rfl) ?_
      refine Q_v (fun w hw => R_lssI rfl rfl) ?_
      refine Q_v (fun w hw => R_assign rfl) ?_
      refine Q_nil (fun w9 e11 => ?_)
      replace hE := hE.trans e11
      replace hB1 := hB1.ext e11
      replace hB2 := hB2.ext e11
      replace hB3 := hB3.ext e11
      replace hB4 := hB4.ext e11
      refine T_tn ?_
      refine wp_ret ?_
      refine T_br ?_
      refine T_tr ?_
      refine T_tr ?_
      refine T_br ?_
      refine T_tr ?_
      refine ret1 (v := .bool _) rfl rfl ⟨congrArg (fun b => Ending.returned (Value.bool b)) ?_, hE⟩
      (clear hE hB1 hB2; (try clear hB3 hB4); unfold lessV; simp_all [hless])
    ·
      refine wp_skip ?_
      refine T_bn ?_
      refine T_tn ?_
      refine W_region ?_
      refine L (D_v (R_move rfl) ?_)
      refine L (D_v (R_cast (v' := .int .i64 (1)) (R_addI rfl rfl) rfl) ?_)
      refine L (D_v (R_assign rfl) ?_)
      refine S_nil ?_
      refine T_tn ?_
      refine W_round ?_
      refine wp_seq ?_
      refine wp_seq ?_
      refine W_region ?_
      refine L (D_v (R_move rfl) ?_)
      refine L (D_v (R_cast (v' := .bool true) (R_lssI rfl rfl) rfl) ?_)
      refine S_nil ?_
      refine T_tn ?_
      refine W_ift rfl ?_
      refine wp_skip ?_
      refine T_tn ?_
      refine wp_seq ?_
      refine wp_block ?_
      refine wp_seq ?_
      refine W_draw mixed (by kernel_rfl) ?_
      refine Q_v (fun w hw => R_move rfl) ?_
      refine Q_v (fun w hw => R_indexAddrA Tryz.runUnderlying78 Tryz.sizeOf3 rfl rfl (by decide) (by decide)) ?_
      refine Q_v (fun w hw => R_load Tryz.isAgg3 (hB3.ext hw) rfl rfl) ?_
      refine Q_v (fun w hw => R_move rfl) ?_
      refine Q_v (fun w hw => R_indexAddrA Tryz.runUnderlying78 Tryz.sizeOf3 rfl rfl (by decide) (by decide)) ?_
      refine Q_v (fun w hw => R_load Tryz.isAgg3 (hB4.ext hw) rfl rfl) ?_
      refine Q_v (fun w hw => R_neqI rfl rfl) ?_
      refine Q_nil (fun w10 e12 => ?_)
      replace hE := hE.trans e12
      replace hB1 := hB1.ext e12
      replace hB2 := hB2.ext e12
      replace hB3 := hB3.ext e12
      replace hB4 := hB4.ext e12
      refine T_tn ?_
      refine W_if rfl (fun c13 => ?_) (fun c13 => ?_)
      ·
        refine wp_seq ?_
        refine W_draw mixed (by kernel_rfl) ?_
        refine Q_v (fun w hw => R_move rfl) ?_
        refine Q_v (fun w hw => R_indexAddrA Tryz.runUnderlying78 Tryz.sizeOf3 rfl rfl (by decide) (by decide)) ?_
        refine Q_v (fun w hw => R_load Tryz.isAgg3 (hB3.ext hw) rfl rfl) ?_
        refine Q_v (fun w hw => R_move rfl) ?_
        refine Q_v (fun w hw => R_indexAddrA Tryz.runUnderlying78 Tryz.sizeOf3 rfl rfl (by decide) (by decide)) ?_
        refine Q_v (fun w hw => R_load Tryz.isAgg3 (hB4.ext hw) rfl rfl) ?_
        refine Q_v (fun w hw => R_lssI rfl rfl) ?_
        refine Q_v (fun w hw => R_assign rfl) ?_
        refine Q_nil (fun w11 e14 => ?_)
        replace hE := hE.trans e14
        replace hB1 := hB1.ext e14
        replace hB2 := hB2.ext e14
        replace hB3 := hB3.ext e14
        replace hB4 := hB4.ext e14
        refine T_tn ?_
        refine wp_ret ?_
        refine T_br ?_
        refine T_tr ?_
        refine T_tr ?_
        refine T_br ?_
        refine T_tr ?_
        refine ret1 (v := .bool _) rfl rfl ⟨congrArg (fun b => Ending.returned (Value.bool b)) ?_, hE⟩
        (clear hE hB1 hB2; (try clear hB3 hB4); unfold lessV; simp_all [hless])
      ·
        refine wp_skip ?_
        refine T_bn ?_
        refine T_tn ?_
        refine W_region ?_
        refine L (D_v (R_move rfl) ?_)
        refine L (D_v (R_cast (v' := .int .i64 (2)) (R_addI rfl rfl) rfl) ?_)
        refine L (D_v (R_assign rfl) ?_)
        refine S_nil ?_
        refine T_tn ?_
        refine W_round ?_
        refine wp_seq ?_
        refine wp_seq ?_
        refine W_region ?_
        refine L (D_v (R_move rfl) ?_)
        refine L (D_v (R_cast (v' := .bool true) (R_lssI rfl rfl) rfl) ?_)
        refine S_nil ?_
        refine T_tn ?_
        refine W_ift rfl ?_
        refine wp_skip ?_
        refine T_tn ?_
        refine wp_seq ?_
        refine wp_block ?_
        refine wp_seq ?_
        refine W_draw mixed (by kernel_rfl) ?_
        refine Q_v (fun w hw => R_move rfl) ?_
        refine Q_v (fun w hw => R_indexAddrA Tryz.runUnderlying78 Tryz.sizeOf3 rfl rfl (by decide) (by decide)) ?_
        refine Q_v (fun w hw => R_load Tryz.isAgg3 (hB3.ext hw) rfl rfl) ?_
        refine Q_v (fun w hw => R_move rfl) ?_
        refine Q_v (fun w hw => R_indexAddrA Tryz.runUnderlying78 Tryz.sizeOf3 rfl rfl (by decide) (by decide)) ?_
        refine Q_v (fun w hw => R_load Tryz.isAgg3 (hB4.ext hw) rfl rfl) ?_
        refine Q_v (fun w hw => R_neqI rfl rfl) ?_
        refine Q_nil (fun w12 e15 => ?_)
        replace hE := hE.trans e15
        replace hB1 := hB1.ext e15
        replace hB2 := hB2.ext e15
        replace hB3 := hB3.ext e15
        replace hB4 := hB4.ext e15
        refine T_tn ?_
        refine W_if rfl (fun c16 => ?_) (fun c16 => ?_)
        ·
          refine wp_seq ?_
          refine W_draw mixed (by kernel_rfl) ?_
          refine Q_v (fun w hw => R_move rfl) ?_
          refine Q_v (fun w hw => R_indexAddrA Tryz.runUnderlying78 Tryz.sizeOf3 rfl rfl (by decide) (by decide)) ?_
          refine Q_v (fun w hw => R_load Tryz.isAgg3 (hB3.ext hw) rfl rfl) ?_
          refine Q_v (fun w hw => R_move rfl) ?_
          refine Q_v (fun w hw => R_indexAddrA Tryz.runUnderlying78 Tryz.sizeOf3 rfl rfl (by decide) (by decide)) ?_
          refine Q_v (fun w hw => R_load Tryz.isAgg3 (hB4.ext hw) rfl rfl) ?_
          refine Q_v (fun w hw => R_lssI rfl rfl) ?_
          refine Q_v (fun w hw => R_assign rfl) ?_
          refine Q_nil (fun w13 e17 => ?_)
          replace hE := hE.trans e17
          replace hB1 := hB1.ext e17
          replace hB2 := hB2.ext e17
          replace hB3 := hB3.ext e17
          replace hB4 := hB4.ext e17
          refine T_tn ?_
          refine wp_ret ?_
          refine T_br ?_
          refine T_tr ?_
          refine T_tr ?_
          refine T_br ?_
          refine T_tr ?_
          refine ret1 (v := .bool _) rfl rfl ⟨congrArg (fun b => Ending.returned (Value.bool b)) ?_, hE⟩
          (clear hE hB1 hB2; (try clear hB3 hB4); unfold lessV; simp_all [hless])
        ·
          refine wp_skip ?_
          refine T_bn ?_
          refine T_tn ?_
          refine W_region ?_
          refine L (D_v (R_move rfl) ?_)
          refine L (D_v (R_cast (v' := .int .i64 (3)) (R_addI rfl rfl) rfl) ?_)
          refine L (D_v (R_assign rfl) ?_)
          refine S_nil ?_
          refine T_tn ?_
          refine W_round ?_
          refine wp_seq ?_
          refine wp_seq ?_
          refine W_region ?_
          refine L (D_v (R_move rfl) ?_)
          refine L (D_v (R_cast (v' := .bool true) (R_lssI rfl rfl) rfl) ?_)
          refine S_nil ?_
          refine T_tn ?_
          refine W_ift rfl ?_
          refine wp_skip ?_
          refine T_tn ?_
          refine wp_seq ?_
          refine wp_block ?_
          refine wp_seq ?_
          refine W_draw mixed (by kernel_rfl) ?_
          refine Q_v (fun w hw => R_move rfl) ?_
          refine Q_v (fun w hw => R_indexAddrA Tryz.runUnderlying78 Tryz.sizeOf3 rfl rfl (by decide) (by decide)) ?_
          refine Q_v (fun w hw => R_load Tryz.isAgg3 (hB3.ext hw) rfl rfl) ?_
          refine Q_v (fun w hw => R_move rfl) ?_
          refine Q_v (fun w hw => R_indexAddrA Tryz.runUnderlying78 Tryz.sizeOf3 rfl rfl (by decide) (by decide)) ?_
          refine Q_v (fun w hw => R_load Tryz.isAgg3 (hB4.ext hw) rfl rfl) ?_
          refine Q_v (fun w hw => R_neqI rfl rfl) ?_
          refine Q_nil (fun w14 e18 => ?_)
          replace hE := hE.trans e18
          replace hB1 := hB1.ext e18
          replace hB2 := hB2.ext e18
          replace hB3 := hB3.ext e18
          replace hB4 := hB4.ext e18
          refine T_tn ?_
          refine W_if rfl (fun c19 => ?_) (fun c19 => ?_)
          ·
            refine wp_seq ?_
            refine W_draw mixed (by kernel_rfl) ?_
            refine Q_v (fun w hw => R_move rfl) ?_
            refine Q_v (fun w hw => R_indexAddrA Tryz.runUnderlying78 Tryz.sizeOf3 rfl rfl (by decide) (by decide)) ?_
            refine Q_v (fun w hw => R_load Tryz.isAgg3 (hB3.ext hw) rfl rfl) ?_
            refine Q_v (fun w hw => R_move rfl) ?_
            refine Q_v (fun w hw => R_indexAddrA Tryz.runUnderlying78 Tryz.sizeOf3 rfl rfl (by decide) (by decide)) ?_
            refine Q_v (fun w hw => R_load Tryz.isAgg3 (hB4.ext hw) rfl rfl) ?_
            refine Q_v (fun w hw => R_lssI rfl rfl) ?_
            refine Q_v (fun w hw => R_assign rfl) ?_
            refine Q_nil (fun w15 e20 => ?_)
            replace hE := hE.trans e20
            replace hB1 := hB1.ext e20
            replace hB2 := hB2.ext e20
            replace hB3 := hB3.ext e20
            replace hB4 := hB4.ext e20
            refine T_tn ?_
            refine wp_ret ?_
            refine T_br ?_
            refine T_tr ?_
            refine T_tr ?_
            refine T_br ?_
            refine T_tr ?_
            refine ret1 (v := .bool _) rfl rfl ⟨congrArg (fun b => Ending.returned (Value.bool b)) ?_, hE⟩
            (clear hE hB1 hB2; (try clear hB3 hB4); unfold lessV; simp_all [hless])
          ·
            refine wp_skip ?_
            refine T_bn ?_
            refine T_tn ?_
            refine W_region ?_
            refine L (D_v (R_move rfl) ?_)
            refine L (D_v (R_cast (v' := .int .i64 (4)) (R_addI rfl rfl) rfl) ?_)
            refine L (D_v (R_assign rfl) ?_)
            refine S_nil ?_
            refine T_tn ?_
            refine W_round ?_
            refine wp_seq ?_
            refine wp_seq ?_
            refine W_region ?_
            refine L (D_v (R_move rfl) ?_)
            refine L (D_v (R_cast (v' := .bool true) (R_lssI rfl rfl) rfl) ?_)
            refine S_nil ?_
            refine T_tn ?_
            refine W_ift rfl ?_
            refine wp_skip ?_
            refine T_tn ?_
            refine wp_seq ?_
            refine wp_block ?_
            refine wp_seq ?_
            refine W_draw mixed (by kernel_rfl) ?_
            refine Q_v (fun w hw => R_move rfl) ?_
            refine Q_v (fun w hw => R_indexAddrA Tryz.runUnderlying78 Tryz.sizeOf3 rfl rfl (by decide) (by decide)) ?_
            refine Q_v (fun w hw => R_load Tryz.isAgg3 (hB3.ext hw) rfl rfl) ?_
            refine Q_v (fun w hw => R_move rfl) ?_
            refine Q_v (fun w hw => R_indexAddrA Tryz.runUnderlying78 Tryz.sizeOf3 rfl rfl (by decide) (by decide)) ?_
            refine Q_v (fun w hw => R_load Tryz.isAgg3 (hB4.ext hw) rfl rfl) ?_
            refine Q_v (fun w hw => R_neqI rfl rfl) ?_
            refine Q_nil (fun w16 e21 => ?_)
            replace hE := hE.trans e21
            replace hB1 := hB1.ext e21
            replace hB2 := hB2.ext e21
            replace hB3 := hB3.ext e21
            replace hB4 := hB4.ext e21
            refine T_tn ?_
            refine W_if rfl (fun c22 => ?_) (fun c22 => ?_)
            ·
              refine wp_seq ?_
              refine W_draw mixed (by kernel_rfl) ?_
              refine Q_v (fun w hw => R_move rfl) ?_
              refine Q_v (fun w hw => R_indexAddrA Tryz.runUnderlying78 Tryz.sizeOf3 rfl rfl (by decide) (by decide)) ?_
              refine Q_v (fun w hw => R_load Tryz.isAgg3 (hB3.ext hw) rfl rfl) ?_
              refine Q_v (fun w hw => R_move rfl) ?_
              refine Q_v (fun w hw => R_indexAddrA Tryz.runUnderlying78 Tryz.sizeOf3 rfl rfl (by decide) (by decide)) ?_
              refine Q_v (fun w hw => R_load Tryz.isAgg3 (hB4.ext hw) rfl rfl) ?_
              refine Q_v (fun w hw => R_lssI rfl rfl) ?_
              refine Q_v (fun w hw => R_assign rfl) ?_
              refine Q_nil (fun w17 e23 => ?_)
              replace hE := hE.trans e23
              replace hB1 := hB1.ext e23
              replace hB2 := hB2.ext e23
              replace hB3 := hB3.ext e23
              replace hB4 := hB4.ext e23
              refine T_tn ?_
              refine wp_ret ?_
              refine T_br ?_
              refine T_tr ?_
              refine T_tr ?_
              refine T_br ?_
              refine T_tr ?_
              refine ret1 (v := .bool _) rfl rfl ⟨congrArg (fun b => Ending.returned (Value.bool b)) ?_, hE⟩
              (clear hE hB1 hB2; (try clear hB3 hB4); unfold lessV; simp_all [hless])
            ·
              refine wp_skip ?_
              refine T_bn ?_
              refine T_tn ?_
              refine W_region ?_
              refine L (D_v (R_move rfl) ?_)
              refine L (D_v (R_cast (v' := .int .i64 (5)) (R_addI rfl rfl) rfl) ?_)
              refine L (D_v (R_assign rfl) ?_)
              refine S_nil ?_
              refine T_tn ?_
              refine W_round ?_
              refine wp_seq ?_
              refine wp_seq ?_
              refine W_region ?_
              refine L (D_v (R_move rfl) ?_)
              refine L (D_v (R_cast (v' := .bool false) (R_lssI rfl rfl) rfl) ?_)
              refine S_nil ?_
              refine T_tn ?_
              refine W_iff rfl ?_
              refine wp_exit ?_
              refine T_te ?_
              refine T_te ?_
              refine T_be ?_
              refine T_tn ?_
              refine wp_seq ?_
              refine wp_seq ?_
              refine W_region ?_
              refine L (D_v (R_fieldAddr Tryz.runUnderlying31 rfl Tryz.sizeOf29 rfl) ?_)
              refine L (D_v (R_loadA (c := (a.value).l) Tryz.isAgg29 Tryz.sizeOf29 hB1 rfl rfl rfl) ?_)
              refine L (D_v (R_fieldAddr Tryz.runUnderlying31 rfl Tryz.sizeOf29 rfl) ?_)
              refine L (D_v (R_loadA (c := (b.value).l) Tryz.isAgg29 Tryz.sizeOf29 hB2 rfl rfl rfl) ?_)
              refine L (D_v (R_neqA Tryz.eqGuardType29 (eq24 (a.value) (b.value) _) rfl rfl) ?_)
              refine S_nil ?_
              refine T_tn ?_
              refine W_if rfl (fun c24 => ?_) (fun c24 => ?_)
              ·
                refine wp_seq ?_
                refine W_region ?_
                refine L (D_v (R_fieldAddr Tryz.runUnderlying31 rfl Tryz.sizeOf29 rfl) ?_)
                refine L (D_v (R_loadA (c := (a.value).l) Tryz.isAgg29 Tryz.sizeOf29 hB1 rfl rfl rfl) ?_)
                refine L (D_v (R_fieldAddr Tryz.runUnderlying31 rfl Tryz.sizeOf29 rfl) ?_)
                refine L (D_v (R_loadA (c := (b.value).l) Tryz.isAgg29 Tryz.sizeOf29 hB2 rfl rfl rfl) ?_)
                refine L (D_call (R_callF Tryz.call79 rfl rfl) (c85 (a.value) (b.value) _ ) (fun w18 e25 => ?_))
                replace hE := hE.trans e25
                replace hB1 := hB1.ext e25
                replace hB2 := hB2.ext e25
                replace hB3 := hB3.ext e25
                replace hB4 := hB4.ext e25
                refine L (D_v (R_assign rfl) ?_)
                refine S_nil ?_
                refine T_tn ?_
                refine wp_ret ?_
                refine T_tr ?_
                refine ret1 (v := .bool _) rfl rfl ⟨congrArg (fun b => Ending.returned (Value.bool b)) ?_, hE⟩
                (clear hE hB1 hB2; (try clear hB3 hB4); unfold lessV; simp_all [hless])
              ·
                refine wp_skip ?_
                refine T_tn ?_
                refine wp_seq ?_
                refine W_region ?_
                refine L (D_v (R_fieldAddr Tryz.runUnderlying31 rfl Tryz.sizeOf27 rfl) ?_)
                refine L (D_v (R_load Tryz.isAgg27 hB1 rfl rfl) ?_)
                refine L (D_v (R_fieldAddr Tryz.runUnderlying31 rfl Tryz.sizeOf27 rfl) ?_)
                refine L (D_v (R_load Tryz.isAgg27 hB2 rfl rfl) ?_)
                refine L (D_v (R_lssI rfl rfl) ?_)
                refine L (D_v (R_assign rfl) ?_)
                refine S_nil ?_
                refine T_tn ?_
                refine wp_ret ?_
                refine ret1 (v := .bool _) rfl rfl ⟨congrArg (fun b => Ending.returned (Value.bool b)) ?_, hE⟩
                (clear hE hB1 hB2; (try clear hB3 hB4); unfold lessV; simp_all [hless])
end Go.Proofs.YteeopgpgbdhmhaaGreat
namespace Go.Proofs.YteeopgpgbdhmhaaGreat
open Go.RowKit
theorem Nm.b_len (n : Nm) : n.b.length = 8 := rfl
def be2 (x : Int) : List UInt8 := [by8 (x / 2 ^ 8)] ++ [by8 (x / 2 ^ 0)]
theorem be2_len (x : Int) : (be2 x).length = 2 := rfl
def encRaw (a : Vt) : List UInt8 := [by8 a.kind, by8 a.slot, by8 a.round, by8 a.choice, by8 a.signer, by8 (a.support / 2 ^ 8), by8 a.support] ++ a.parent.b ++ a.value.b
def encB (a : Vt) : List UInt8 := if valid a then encRaw a else []
theorem by8_congr {m n : Int} (h : m % 256 = n % 256) : by8 m = by8 n := by simp only [by8, h]
theorem be2_wrap (x : Int) : be2 (IntKind.wrap .u64 x) = [by8 (x / 2 ^ 8), by8 x] := by
  unfold be2
  rw [IntKind.wrap_u64, by8_congr (m := x % 18446744073709551616 / 2 ^ 8) (n := x / 2 ^ 8) (by omega), by8_congr (m := x % 18446744073709551616 / 2 ^ 0) (n := x) (by omega)]
  rfl
def rot (x : Int) (j : Nat) : Int := bits .or .u64 (IntKind.wrap .u64 (x * 2 ^ j)) (x / 2 ^ (64 - j))
def mxX (x y : Int) : Int := IntKind.wrap .u64 (rot (IntKind.wrap .u64 (x + y)) 32 * 11400714819323198485)
def mxY (x y : Int) : Int := bits .xor .u64 (rot y 13) (IntKind.wrap .u64 (x + y))
def mx : Nat → Int → Int → Int × Int
  | 0, x, y => (x, y)
  | k + 1, x, y => mx k (mxX x y) (mxY x y)
def nmOf (x : Int) : Nm := ⟨by8 (x / 2 ^ 56), by8 (x / 2 ^ 48), by8 (x / 2 ^ 40), by8 (x / 2 ^ 32), by8 (x / 2 ^ 24), by8 (x / 2 ^ 16), by8 (x / 2 ^ 8), by8 x⟩
theorem fill24 (a b c d e f g h : UInt8) : Instr.fill (fun i => some (i * 1, 1)) #[.int .u8 0, .int .u8 0, .int .u8 0, .int .u8 0, .int .u8 0, .int .u8 0, .int .u8 0, .int .u8 0] [(0, u8 a), (1, u8 b), (2, u8 c), (3, u8 d), (4, u8 e), (5, u8 f), (6, u8 g), (7, u8 h)] = some (⟨a, b, c, d, e, f, g, h⟩ : Nm).l.toArray := by
  simp [Instr.fill, u8, Value.cells, Nm.l]
def padN (b : List UInt8) : Nm := ⟨b.getD 0 0, b.getD 1 0, b.getD 2 0, b.getD 3 0, b.getD 4 0, b.getD 5 0, b.getD 6 0, b.getD 7 0⟩
def word (b : List UInt8) : Int := num (padN b)
theorem bl_get {b : List UInt8} {i : Nat} (h : i < b.length) : (bl b)[i * 1]? = some (u8 (b.getD i 0)) := by
  simp [bl, List.getD, List.getElem?_eq_getElem h]
theorem pad_copy (b : List UInt8) (h : b.length < 8) : Nm.zero.l.take 0 ++ (bl b).take (Nat.min b.length 8) ++ Nm.zero.l.drop (0 + Nat.min b.length 8) = (padN b).l := by
  rcases b with _ | ⟨b0, _ | ⟨b1, _ | ⟨b2, _ | ⟨b3, _ | ⟨b4, _ | ⟨b5, _ | ⟨b6, _ | ⟨b7, t⟩⟩⟩⟩⟩⟩⟩⟩ <;> first | rfl | (simp at h; omega)
def pw (b : List UInt8) : Nat → Nat
  | 0 => 0
  | i + 1 => pw b i + (b.getD i 0).toNat * 2 ^ (56 - 8 * i)
theorem pw8 (b : List UInt8) : word b = (pw b 8 : Int) := by
  unfold word; rw [num_eq]; simp only [numN, padN, pw]; simp only [Nat.reduceMul, Nat.reduceSub, Nat.reducePow]; omega
theorem pw_end (b : List UInt8) (n : Nat) : ∀ k, b.length ≤ n → pw b (n + k) = pw b n
  | 0, _ => rfl
  | k + 1, h => by
    rw [← Nat.add_assoc, pw, pw_end b n k h]
    simp [List.getD, List.getElem?_eq_none (show b.length ≤ n + k by omega)]
theorem or_add (x : Nat) (c : UInt8) (s : Nat) (hs : s ≤ 56) (h : x % 2 ^ (s + 8) = 0) (hx : x < 18446744073709551616) : bits .or .u64 (x : Int) (IntKind.wrap .u64 ((c.toNat : Int) * 2 ^ s)) = ((x + c.toNat * 2 ^ s : Nat) : Int) := by
  have hc := c.toNat_lt
  have h1 : c.toNat * 2 ^ s < 2 ^ (s + 8) := by rw [Nat.pow_add, Nat.mul_comm]; exact Nat.mul_lt_mul_of_pos_left hc (Nat.two_pow_pos s)
  have h2 : 2 ^ (s + 8) ≤ 2 ^ 64 := Nat.pow_le_pow_right (by omega) (by omega)
  have h3 : (c.toNat : Int) * 2 ^ s = ((c.toNat * 2 ^ s : Nat) : Int) := by simp
  rw [h3, IntKind.wrap_u64, show ((c.toNat * 2 ^ s : Nat) : Int) % 18446744073709551616 = ((c.toNat * 2 ^ s : Nat) : Int) by omega, bits_or_u64_nat _ _ hx (by omega)]
  congr 1
  have := Nat.two_pow_add_eq_or_of_lt h1 (x / 2 ^ (s + 8))
  have h4 := Nat.div_add_mod x (2 ^ (s + 8))
  rw [h, Nat.add_zero] at h4
  rw [h4] at this
  exact this.symm
theorem or_pw (b : List UInt8) (i : Nat) (hi : i < 8) : bits .or .u64 (pw b i : Int) (IntKind.wrap .u64 (((b.getD i 0).toNat : Int) * 2 ^ (56 - 8 * i))) = (pw b (i + 1) : Int) := by
  have a0 := (b.getD 0 0).toNat_lt; have a1 := (b.getD 1 0).toNat_lt; have a2 := (b.getD 2 0).toNat_lt; have a3 := (b.getD 3 0).toNat_lt
  have a4 := (b.getD 4 0).toNat_lt; have a5 := (b.getD 5 0).toNat_lt; have a6 := (b.getD 6 0).toNat_lt
  refine (or_add _ _ _ (by omega) ?_ ?_).trans rfl
  all_goals
    have : i = 0 ∨ i = 1 ∨ i = 2 ∨ i = 3 ∨ i = 4 ∨ i = 5 ∨ i = 6 ∨ i = 7 := by omega
    rcases this with rfl | rfl | rfl | rfl | rfl | rfl | rfl | rfl <;> simp only [pw, Nat.reduceMul, Nat.reduceSub, Nat.reducePow, Nat.reduceAdd] <;> omega
theorem word_long (b : List UInt8) : bits .or .u64 (bits .or .u64 (bits .or .u64 (bits .or .u64 (bits .or .u64 (bits .or .u64 (bits .or .u64 (IntKind.wrap .u64 (((b.getD 0 0).toNat : Int) * 2 ^ 56)) (IntKind.wrap .u64 (((b.getD 1 0).toNat : Int) * 2 ^ 48))) (IntKind.wrap .u64 (((b.getD 2 0).toNat : Int) * 2 ^ 40))) (IntKind.wrap .u64 (((b.getD 3 0).toNat : Int) * 2 ^ 32))) (IntKind.wrap .u64 (((b.getD 4 0).toNat : Int) * 2 ^ 24))) (IntKind.wrap .u64 (((b.getD 5 0).toNat : Int) * 2 ^ 16))) (IntKind.wrap .u64 (((b.getD 6 0).toNat : Int) * 2 ^ 8))) ((b.getD 7 0).toNat : Int) = word b := by
  have e1 : IntKind.wrap .u64 (((b.getD 0 0).toNat : Int) * 2 ^ 56) = (pw b 1 : Int) := by
    have a0 := (b.getD 0 0).toNat_lt
    rw [IntKind.wrap_u64]; simp only [pw, Nat.reduceMul, Nat.reduceSub, Nat.reducePow]; omega
  have e8 : ((b.getD 7 0).toNat : Int) = IntKind.wrap .u64 (((b.getD 7 0).toNat : Int) * 2 ^ (56 - 8 * 7)) := by
    have a7 := (b.getD 7 0).toNat_lt
    rw [IntKind.wrap_u64]; simp only [Nat.reduceMul, Nat.reduceSub]; omega
  rw [pw8, e1, or_pw b 1 (by omega), or_pw b 2 (by omega), or_pw b 3 (by omega), or_pw b 4 (by omega), or_pw b 5 (by omega), or_pw b 6 (by omega), e8, or_pw b 7 (by omega)]
theorem word_short (b : List UInt8) (h : b.length < 8) : (pw b b.length : Int) = word b := by
  rw [pw8, ← pw_end b b.length (8 - b.length) (Nat.le_refl _)]
  congr 2; omega
def sm (b : List UInt8) : Nat → Nat → Int × Int → Int × Int
  | 0, _, p => p
  | n + 1, i, p => sm b n (i + 8) (mx 2 (bits .xor .u64 p.1 (word ((b.drop i).take (b.length - i)))) p.2)
def hashE (b : List UInt8) (p : Int × Int) : Nm :=
  let q := mx 4 p.1 (bits .xor .u64 p.2 (IntKind.wrap .u64 ((b.length : Nat) : Int)))
  nmOf (bits .xor .u64 q.1 q.2)
def hashB (b : List UInt8) : Nm := hashE b (sm b ((b.length + 7) / 8) 0 (2611923443488327891, 1376283091369227076))
theorem sm_step (b : List UInt8) {i : Nat} {X Y : Int} {Z : Int × Int} (h : sm b ((b.length + 7 - i) / 8) i (X, Y) = Z) (hi : i < b.length) :
    sm b ((b.length + 7 - (i + 8)) / 8) (i + 8) (mx 2 (bits .xor .u64 X (word ((b.drop i).take (b.length - i)))) Y) = Z := by
  rw [show (b.length + 7 - i) / 8 = (b.length + 7 - (i + 8)) / 8 + 1 by omega] at h; exact h
theorem sm_end (b : List UInt8) {i : Nat} {X Y : Int} {Z : Int × Int} (h : sm b ((b.length + 7 - i) / 8) i (X, Y) = Z) (hi : ¬ i < b.length) : Z = (X, Y) := by
  rw [show (b.length + 7 - i) / 8 = 0 by omega] at h; exact h.symm
def nameV (a : Vt) : Nm := if valid a then hashB (64 :: encB a) else Nm.zero
theorem encB_le (a : Vt) : (encB a).length ≤ 23 := by
  unfold encB; split
  · simp [encRaw, Nm.b_len]
  · simp
theorem places123 (w : World) : ((#[⟨"x", 45, 0, false, "", "forkledger/hash", 0⟩, ⟨"y", 45, 1, false, "", "forkledger/hash", 8⟩] : Array Field).mapM fun (f : Field) => Prod.mk f.offset <$> sizeOf f.type).run Tryz.prog w = .ok #[(0, 1), (1, 1)] w := by
  simp [Tryz.sizeOf45, go_sem]
section
variable {P : Program} {ρ : Operand → Value} {w : World} {dst : Option Tmp} {ty : TypeId} {pos : String} {aft : Array Edge} {gd : Option (Nat × Bool)}
theorem R_shlN {t t' : TypeId} {x y : Operand} {k : IntKind} {m : Int} {e : Nat} (hx : ρ x = .int k m) (hy : ρ y = .int .u64 (IntKind.wrap .u64 ((e : Nat) : Int))) (he : e ≤ 63) (hk : 64 ≤ k.bits) : (execOp ρ ⟨dst, .binOp .shl t x y t', ty, pos, aft, gd⟩).run P w = .ok (.value (.int k (k.wrap (m * 2 ^ e)))) w := by
  have h1 : IntKind.wrap .u64 ((e : Nat) : Int) = (e : Int) := by rw [IntKind.wrap_u64]; omega
  rw [h1] at hy
  have := R_shl (P := P) (w := w) (dst := dst) (ty := ty) (pos := pos) (aft := aft) (gd := gd) (t := t) (t' := t') hx hy (by omega)
  rwa [show min (e : Int).toNat k.bits = e by omega] at this
end
end Go.Proofs.YteeopgpgbdhmhaaGreat
namespace Go.Proofs.YteeopgpgbdhmhaaGreat
open Go.RowKit
set_option linter.unusedVariables false
set_option linter.unusedSimpArgs false
attribute [local irreducible] wpList wpO H wpQuiet wpStill Code.wp Exit.then Exit.inBlock bodyPost Code.rounds Calls valid sameKey conflict lessV hless num between
set_option maxRecDepth 4000 in
set_option maxHeartbeats 1000000 in
theorem c110 (v : Value) (b : List UInt8) (k : Nat) (w : World) (h : Bs w v b) (hk : b.length + k ≤ 140737488355328) : Calls Tryz.prog 80 [v, i64 (k : Int)].toArray w (RetE w fun r w' => OwnB w' w.heap.size r b) := by
  refine enter Tryz.func80 Tryz.ntmps80 rfl rfl ?_
  have hE := Ext.refl w
  refine wp_seq ?_
  refine W_region ?_
  refine L (D_v (R_assign rfl) ?_)
  refine S_nil ?_
  refine T_tn ?_
  refine wp_seq ?_
  refine W_region ?_
  refine L (D_v (R_move rfl) ?_)
  refine L (D_v (R_len Tryz.underlying32 rfl (h.ext hE)) ?_)
  refine L (D_v (R_move rfl) ?_)
  refine L (D_v (R_len Tryz.underlying32 rfl (h.ext hE)) ?_)
  refine L (D_v (R_move rfl) ?_)
  refine L (D_v (R_addN (m := (b).length) (j := k) rfl rfl (by (try simp only [List.length_take, List.length_drop, List.length_append, List.length_cons, List.length_nil, Nm.b_len, be2_len]); omega)) ?_)
  refine L (D_makeN (l := (b).length) (c := ((b).length + k)) elt5 zero5 Tryz.underlying32 rfl rfl (by (try simp only [List.length_take, List.length_drop, List.length_append, List.length_cons, List.length_nil, Nm.b_len, be2_len]); omega) (by (try simp only [List.length_take, List.length_drop, List.length_append, List.length_cons, List.length_nil, Nm.b_len, be2_len]); omega) (fun v2 w1 o3 e1 => ?_))
  replace o3 := o3.lo hE.size
  replace hE := hE.trans e1
  refine L (D_v (R_assign rfl) ?_)
  refine S_nil ?_
  refine T_tn ?_
  refine wp_seq ?_
  refine W_region ?_
  refine L (D_v (R_move rfl) ?_)
  refine L (D_v (R_move rfl) ?_)
  refine L (D_copyOwnB Tryz.underlying32 Tryz.sizeOf5 rfl rfl o3 (h.ext hE) (by simp) (fun r5 w2 o6 k4 => ?_))
  replace hE := hE.grown k4 (fun k hk => own_ge o3 hk)
  refine S_nil ?_
  refine T_tn ?_
  refine wp_seq ?_
  refine W_region ?_
  refine L (D_v (R_move rfl) ?_)
  refine L (D_v (R_assign rfl) ?_)
  refine S_nil ?_
  refine T_tn ?_
  refine wp_ret ?_
  refine ret1 (v := v2) rfl rfl ⟨_, rfl, hE, ?_⟩
  exact o6
set_option maxRecDepth 4000 in
set_option maxHeartbeats 1000000 in
theorem c86_0 (v : Value) (b : List UInt8) (x : Int) (w : World) (h : Bs w v b) (hk : b.length + 0 ≤ 140737488355328) : Calls Tryz.prog 45 [v, .int .u64 x, i64 0].toArray w (RetE w fun r w' => OwnB w' w.heap.size r (b)) := by
  refine enter Tryz.func45 Tryz.ntmps45 rfl rfl ?_
  have hE := Ext.refl w
  refine wp_seq ?_
  refine W_region ?_
  refine L (D_v (R_assign rfl) ?_)
  refine S_nil ?_
  refine T_tn ?_
  refine wp_seq ?_
  refine W_region ?_
  refine L (D_v (R_move rfl) ?_)
  refine L (D_v (R_maxC (z := 0) rfl rfl (by decide)) ?_)
  refine L (D_v (R_minC (z := 0) rfl rfl (by decide)) ?_)
  refine L (D_v (R_assign rfl) ?_)
  refine S_nil ?_
  refine T_tn ?_
  refine wp_seq ?_
  refine W_region ?_
  refine L (D_v (R_move rfl) ?_)
  refine L (D_v (R_move rfl) ?_)
  refine L (D_callE (R_callF Tryz.call80 rfl rfl) (c110 v (b) 0 _ (h.ext hE) (by (try simp only [List.length_append, List.length_cons, List.length_nil, Nm.b_len, be2_len]); omega)) (fun v2 w1 e1 p3 => ?_))
  have o4 := p3
  replace o4 := o4.lo hE.size
  replace hE := hE.trans e1
  refine L (D_v (R_assign rfl) ?_)
  refine S_nil ?_
  refine T_tn ?_
  refine wp_seq ?_
  refine wp_seq ?_
  refine W_region ?_
  refine L (D_v (R_move rfl) ?_)
  refine L (D_v (R_cast (v' := .int .i64 (-1)) (R_subI rfl rfl) rfl) ?_)
  refine L (D_v (R_assign rfl) ?_)
  refine S_nil ?_
  refine T_tn ?_
  refine wp_block ?_
  refine W_unroll 0 ?_
  refine W_round ?_
  refine wp_seq ?_
  refine wp_seq ?_
  refine W_region ?_
  refine L (D_v (R_move rfl) ?_)
  refine L (D_v (R_cast (v' := .bool false) (R_geqI rfl rfl) rfl) ?_)
  refine S_nil ?_
  refine T_tn ?_
  refine W_iff rfl ?_
  refine wp_exit ?_
  refine T_te ?_
  refine T_te ?_
  refine T_be ?_
  refine T_tn ?_
  refine wp_seq ?_
  refine W_region ?_
  refine L (D_v (R_move rfl) ?_)
  refine L (D_v (R_assign rfl) ?_)
  refine S_nil ?_
  refine T_tn ?_
  refine wp_ret ?_
  refine ret1 (v := v2) rfl rfl ⟨_, rfl, hE, ?_⟩
  simpa [be2] using o4
set_option maxRecDepth 4000 in
set_option maxHeartbeats 1000000 in
theorem c86_2 (v : Value) (b : List UInt8) (x : Int) (w : World) (h : Bs w v b) (hk : b.length + 2 ≤ 140737488355328) : Calls Tryz.prog 45 [v, .int .u64 x, i64 2].toArray w (RetE w fun r w' => OwnB w' w.heap.size r (b ++ be2 x)) := by
  refine enter Tryz.func45 Tryz.ntmps45 rfl rfl ?_
  have hE := Ext.refl w
  refine wp_seq ?_
  refine W_region ?_
  refine L (D_v (R_assign rfl) ?_)
  refine S_nil ?_
  refine T_tn ?_
  refine wp_seq ?_
  refine W_region ?_
  refine L (D_v (R_move rfl) ?_)
  refine L (D_v (R_maxC (z := 2) rfl rfl (by decide)) ?_)
  refine L (D_v (R_minC (z := 2) rfl rfl (by decide)) ?_)
  refine L (D_v (R_assign rfl) ?_)
  refine S_nil ?_
  refine T_tn ?_
  refine wp_seq ?_
  refine W_region ?_
  refine L (D_v (R_move rfl) ?_)
  refine L (D_v (R_move rfl) ?_)
  refine L (D_callE (R_callF Tryz.call80 rfl rfl) (c110 v (b) 2 _ (h.ext hE) (by (try simp only [List.length_append, List.length_cons, List.length_nil, Nm.b_len, be2_len]); omega)) (fun v2 w1 e1 p3 => ?_))
  have o4 := p3
  replace o4 := o4.lo hE.size
  replace hE := hE.trans e1
  refine L (D_v (R_assign rfl) ?_)
  refine S_nil ?_
  refine T_tn ?_
  refine wp_seq ?_
  refine wp_seq ?_
  refine W_region ?_
  refine L (D_v (R_move rfl) ?_)
  refine L (D_v (R_cast (v' := .int .i64 (1)) (R_subI rfl rfl) rfl) ?_)
  refine L (D_v (R_assign rfl) ?_)
  refine S_nil ?_
  refine T_tn ?_
  refine wp_block ?_
  refine W_unroll 2 ?_
  refine W_round ?_
  refine wp_seq ?_
  refine wp_seq ?_
  refine W_region ?_
  refine L (D_v (R_move rfl) ?_)
  refine L (D_v (R_cast (v' := .bool true) (R_geqI rfl rfl) rfl) ?_)
  refine S_nil ?_
  refine T_tn ?_
  refine W_ift rfl ?_
  refine wp_skip ?_
  refine T_tn ?_
  refine wp_seq ?_
  refine wp_block ?_
  refine W_region ?_
  refine L (D_v (R_move rfl) ?_)
  refine L (D_v (R_move rfl) ?_)
  refine L (D_v (R_move rfl) ?_)
  refine L (D_v (R_cast (v' := .int .i64 (8)) (R_mulI rfl rfl) rfl) ?_)
  refine L (D_v (R_shrC (z := 8) rfl rfl (by decide) (by decide)) ?_)
  refine L (D_v (R_convB Tryz.runUnderlying45 rfl) ?_)
  refine L (D_buildB (vs := [(0, u8 (by8 ((x / 2 ^ 8))))]) (b := [(by8 ((x / 2 ^ 8)))]) Tryz.underlying32 Tryz.sizeOf5 Tryz.zeroValue5 rfl (fillB1 _) rfl rfl rfl (fun v6 w2 o7 e5 => ?_))
  replace o7 := o7.lo hE.size
  replace hE := hE.trans e5
  replace o4 := o4.ext e5
  refine L (D_appendB elt5 Tryz.underlying32 rfl rfl o4 o7.bs (by (try simp only [List.length_take, List.length_drop, List.length_append, List.length_cons, List.length_nil, Nm.b_len, be2_len]); omega) hE.size (fun v9 w3 o10 g8 => ?_))
  replace hE := hE.grown g8 (fun k hk => own_ge o4 hk)
  refine L (D_v (R_assign rfl) ?_)
  refine S_nil ?_
  refine T_bn ?_
  refine T_tn ?_
  refine W_region ?_
  refine L (D_v (R_move rfl) ?_)
  refine L (D_v (R_cast (v' := .int .i64 (0)) (R_subI rfl rfl) rfl) ?_)
  refine L (D_v (R_assign rfl) ?_)
  refine S_nil ?_
  refine T_tn ?_
  refine W_round ?_
  refine wp_seq ?_
  refine wp_seq ?_
  refine W_region ?_
  refine L (D_v (R_move rfl) ?_)
  refine L (D_v (R_cast (v' := .bool true) (R_geqI rfl rfl) rfl) ?_)
  refine S_nil ?_
  refine T_tn ?_
  refine W_ift rfl ?_
  refine wp_skip ?_
  refine T_tn ?_
  refine wp_seq ?_
  refine wp_block ?_
  refine W_region ?_
  refine L (D_v (R_move rfl) ?_)
  refine L (D_v (R_move rfl) ?_)
  refine L (D_v (R_move rfl) ?_)
  refine L (D_v (R_cast (v' := .int .i64 (0)) (R_mulI rfl rfl) rfl) ?_)
  refine L (D_v (R_shrC (z := 0) rfl rfl (by decide) (by decide)) ?_)
  refine L (D_v (R_convB Tryz.runUnderlying45 rfl) ?_)
  refine L (D_buildB (vs := [(0, u8 (by8 ((x / 2 ^ 0))))]) (b := [(by8 ((x / 2 ^ 0)))]) Tryz.underlying32 Tryz.sizeOf5 Tryz.zeroValue5 rfl (fillB1 _) rfl rfl rfl (fun v12 w4 o13 e11 => ?_))
  replace o13 := o13.lo hE.size
  replace hE := hE.trans e11
  replace o10 := o10.ext e11
  refine L (D_appendB elt5 Tryz.underlying32 rfl rfl o10 o13.bs (by (try simp only [List.length_take, List.length_drop, List.length_append, List.length_cons, List.length_nil, Nm.b_len, be2_len]); omega) hE.size (fun v15 w5 o16 g14 => ?_))
  replace hE := hE.grown g14 (fun k hk => own_ge o10 hk)
  refine L (D_v (R_assign rfl) ?_)
  refine S_nil ?_
  refine T_bn ?_
  refine T_tn ?_
  refine W_region ?_
  refine L (D_v (R_move rfl) ?_)
  refine L (D_v (R_cast (v' := .int .i64 (-1)) (R_subI rfl rfl) rfl) ?_)
  refine L (D_v (R_assign rfl) ?_)
  refine S_nil ?_
  refine T_tn ?_
  refine W_round ?_
  refine wp_seq ?_
  refine wp_seq ?_
  refine W_region ?_
  refine L (D_v (R_move rfl) ?_)
  refine L (D_v (R_cast (v' := .bool false) (R_geqI rfl rfl) rfl) ?_)
  refine S_nil ?_
  refine T_tn ?_
  refine W_iff rfl ?_
  refine wp_exit ?_
  refine T_te ?_
  refine T_te ?_
  refine T_be ?_
  refine T_tn ?_
  refine wp_seq ?_
  refine W_region ?_
  refine L (D_v (R_move rfl) ?_)
  refine L (D_v (R_assign rfl) ?_)
  refine S_nil ?_
  refine T_tn ?_
  refine wp_ret ?_
  refine ret1 (v := v15) rfl rfl ⟨_, rfl, hE, ?_⟩
  simpa [be2] using o16
set_option maxRecDepth 4000 in
set_option maxHeartbeats 1000000 in
theorem c35 (a : Vt) (w : World) : Calls Tryz.prog 69 [a.v].toArray w (RetE w fun r w' => ∃ s, r = .tuple #[s, .bool (valid a)] ∧ OwnB w' w.heap.size s (encB a)) := by
  refine enter Tryz.func69 Tryz.ntmps69 rfl rfl ?_
  have hE := Ext.refl w
  refine wp_seq ?_
  refine W_region ?_
  refine L (D_box (c := (a).l) (rfl) (fun aB1 w1 e1 gB1 hB1 => ?_))
  have lB1 := Nat.le_trans hE.size gB1
  replace hE := hE.trans e1
  refine L (D_v (R_assign rfl) ?_)
  refine L (D_v (R_assign rfl) ?_)
  refine S_nil ?_
  refine T_tn ?_
  refine wp_seq ?_
  refine wp_seq ?_
  refine W_region ?_
  refine L (D_v (R_loadA (c := (a).l) Tryz.isAgg31 Tryz.sizeOf31 hB1 rfl rfl rfl) ?_)
  refine L (D_call (R_callF Tryz.call38 rfl rfl) (c26 (a) _ ) (fun w2 e2 => ?_))
  replace hE := hE.trans e2
  replace hB1 := hB1.ext e2
  refine L (D_v (R_not rfl) ?_)
  refine S_nil ?_
  refine T_tn ?_
  refine W_if rfl (fun c3 => ?_) (fun c3 => ?_)
  ·
    refine wp_seq ?_
    refine W_region ?_
    refine L (D_v (R_assign rfl) ?_)
    refine L (D_v (R_assign rfl) ?_)
    refine S_nil ?_
    refine T_tn ?_
    refine wp_ret ?_
    refine T_tr ?_
    refine ret2 (v := (Value.slice none 0 0)) (v2 := .bool _) rfl rfl rfl ⟨_, rfl, hE, ?_⟩
    exact ⟨_, congrArg (fun b => Value.tuple #[_, Value.bool b]) (by simp_all), by rw [encB, if_neg (by simp_all)]; exact OwnB.nil _ _⟩
  ·
    refine wp_skip ?_
    refine T_tn ?_
    refine wp_seq ?_
    refine W_region ?_
    refine L (D_make0 (c := 23) elt5 Tryz.underlying32 rfl rfl (by (try simp only [List.length_take, List.length_drop, List.length_append, List.length_cons, List.length_nil, Nm.b_len, be2_len]); omega) (fun v5 w3 o6 e4 => ?_))
    replace o6 := o6.lo hE.size
    replace hE := hE.trans e4
    replace hB1 := hB1.ext e4
    refine L (D_v (R_assign rfl) ?_)
    refine S_nil ?_
    refine T_tn ?_
    refine wp_seq ?_
    refine W_region ?_
    refine L (D_v (R_move rfl) ?_)
    refine L (D_v (R_fieldAddr Tryz.runUnderlying31 rfl Tryz.sizeOf3 rfl) ?_)
    refine L (D_v (R_load Tryz.isAgg3 hB1 rfl rfl) ?_)
    refine L (D_v (R_convB Tryz.runUnderlying3 rfl) ?_)
    refine L (D_v (R_fieldAddr Tryz.runUnderlying31 rfl Tryz.sizeOf3 rfl) ?_)
    refine L (D_v (R_load Tryz.isAgg3 hB1 rfl rfl) ?_)
    refine L (D_v (R_convB Tryz.runUnderlying3 rfl) ?_)
    refine L (D_v (R_fieldAddr Tryz.runUnderlying31 rfl Tryz.sizeOf3 rfl) ?_)
    refine L (D_v (R_load Tryz.isAgg3 hB1 rfl rfl) ?_)
    refine L (D_v (R_convB Tryz.runUnderlying3 rfl) ?_)
    refine L (D_v (R_fieldAddr Tryz.runUnderlying31 rfl Tryz.sizeOf3 rfl) ?_)
    refine L (D_v (R_load Tryz.isAgg3 hB1 rfl rfl) ?_)
    refine L (D_v (R_convB Tryz.runUnderlying3 rfl) ?_)
    refine L (D_v (R_fieldAddr Tryz.runUnderlying31 rfl Tryz.sizeOf3 rfl) ?_)
    refine L (D_v (R_load Tryz.isAgg3 hB1 rfl rfl) ?_)
    refine L (D_v (R_convB Tryz.runUnderlying3 rfl) ?_)
    refine L (D_buildB (vs := [(0, u8 (by8 (a.kind))), (1, u8 (by8 (a.slot))), (2, u8 (by8 (a.round))), (3, u8 (by8 (a.choice))), (4, u8 (by8 (a.signer)))]) (b := [(by8 (a.kind)), (by8 (a.slot)), (by8 (a.round)), (by8 (a.choice)), (by8 (a.signer))]) Tryz.underlying32 Tryz.sizeOf5 Tryz.zeroValue5 rfl (fillB5 _ _ _ _ _) rfl rfl rfl (fun v8 w4 o9 e7 => ?_))
    replace o9 := o9.lo hE.size
    replace hE := hE.trans e7
    replace hB1 := hB1.ext e7
    replace o6 := o6.ext e7
    refine L (D_appendB elt5 Tryz.underlying32 rfl rfl o6 o9.bs (by (try simp only [List.length_take, List.length_drop, List.length_append, List.length_cons, List.length_nil, Nm.b_len, be2_len]); omega) hE.size (fun v11 w5 o12 g10 => ?_))
    replace hE := hE.grown g10 (fun k hk => own_ge o6 hk)
    replace hB1 := hB1.grown g10 (o6.neB hB1 rfl)
    refine L (D_v (R_assign rfl) ?_)
    refine S_nil ?_
    refine T_tn ?_
    refine wp_seq ?_
    refine W_region ?_
    refine L (D_v (R_move rfl) ?_)
    refine L (D_v (R_fieldAddr Tryz.runUnderlying31 rfl Tryz.sizeOf27 rfl) ?_)
    refine L (D_v (R_load Tryz.isAgg27 hB1 rfl rfl) ?_)
    refine L (D_v (R_conv Tryz.runUnderlying27 Tryz.runUnderlying45 rfl) ?_)
    refine L (D_callE (R_callF Tryz.call45 rfl rfl) (c86_2 v11 (([] ++ [(by8 (a.kind)), (by8 (a.slot)), (by8 (a.round)), (by8 (a.choice)), (by8 (a.signer))])) _ _ o12.bs (by (try simp only [List.length_append, List.length_cons, List.length_nil, Nm.b_len, be2_len]); omega)) (fun v14 w6 e13 p15 => ?_))
    have o16 := p15
    replace o16 := o16.lo hE.size
    replace hE := hE.trans e13
    replace hB1 := hB1.ext e13
    replace o12 := o12.ext e13
    refine L (D_v (R_assign rfl) ?_)
    refine S_nil ?_
    refine T_tn ?_
    refine wp_seq ?_
    refine W_region ?_
    refine L (D_v (R_move rfl) ?_)
    refine L (D_v (R_fieldAddr Tryz.runUnderlying31 rfl Tryz.sizeOf29 rfl) ?_)
    refine L (D_v (R_sliceArr (len := 7) Tryz.underlying29 Tryz.sizeOf5 rfl) ?_)
    refine L (D_appendB elt5 Tryz.underlying32 rfl rfl o16 (hB1.bs 6 (a.parent).b rfl rfl rfl) (by (try simp only [List.length_take, List.length_drop, List.length_append, List.length_cons, List.length_nil, Nm.b_len, be2_len]); omega) hE.size (fun v18 w7 o19 g17 => ?_))
    replace hE := hE.grown g17 (fun k hk => own_ge o16 hk)
    replace hB1 := hB1.grown g17 (o16.neB hB1 rfl)
    refine L (D_v (R_assign rfl) ?_)
    refine S_nil ?_
    refine T_tn ?_
    refine wp_seq ?_
    refine W_region ?_
    refine L (D_v (R_move rfl) ?_)
    refine L (D_v (R_fieldAddr Tryz.runUnderlying31 rfl Tryz.sizeOf29 rfl) ?_)
    refine L (D_v (R_sliceArr (len := 7) Tryz.underlying29 Tryz.sizeOf5 rfl) ?_)
    refine L (D_appendB elt5 Tryz.underlying32 rfl rfl o19 (hB1.bs 14 (a.value).b rfl rfl rfl) (by (try simp only [List.length_take, List.length_drop, List.length_append, List.length_cons, List.length_nil, Nm.b_len, be2_len]); omega) hE.size (fun v21 w8 o22 g20 => ?_))
    replace hE := hE.grown g20 (fun k hk => own_ge o19 hk)
    replace hB1 := hB1.grown g20 (o19.neB hB1 rfl)
    refine L (D_v (R_assign rfl) ?_)
    refine L (D_v (R_assign rfl) ?_)
    refine S_nil ?_
    refine T_tn ?_
    refine wp_ret ?_
    refine ret2 (v := v21) (v2 := .bool _) rfl rfl rfl ⟨_, rfl, hE, ?_⟩
    exact ⟨_, congrArg (fun b => Value.tuple #[_, Value.bool b]) (by simp_all), by rw [encB, if_pos (by simp_all)]; first | exact o22 | (rw [be2_wrap] at o22; exact o22)⟩
set_option maxRecDepth 4000 in
set_option maxHeartbeats 1000000 in
theorem c38 (a : Vt) (w : World) : Calls Tryz.prog 59 [a.v].toArray w (RetE w fun r w' => ∃ s, r = .tuple #[s, .bool (valid a)] ∧ OwnB w' w.heap.size s (encB a)) := by
  refine enter Tryz.func59 Tryz.ntmps59 rfl rfl ?_
  have hE := Ext.refl w
  refine wp_seq ?_
  refine W_region ?_
  refine L (D_box (c := (a).l) (rfl) (fun aB1 w1 e1 gB1 hB1 => ?_))
  have lB1 := Nat.le_trans hE.size gB1
  replace hE := hE.trans e1
  refine L (D_v (R_assign rfl) ?_)
  refine L (D_v (R_assign rfl) ?_)
  refine S_nil ?_
  refine T_tn ?_
  refine wp_seq ?_
  refine wp_seq ?_
  refine W_region ?_
  refine L (D_v (R_loadA (c := (a).l) Tryz.isAgg31 Tryz.sizeOf31 hB1 rfl rfl rfl) ?_)
  refine L (D_call (R_callF Tryz.call33 rfl rfl) (c27 (a) _ ) (fun w2 e2 => ?_))
  replace hE := hE.trans e2
  replace hB1 := hB1.ext e2
  refine L (D_v (R_not rfl) ?_)
  refine S_nil ?_
  refine T_tn ?_
  refine W_if rfl (fun c3 => ?_) (fun c3 => ?_)
  ·
    refine wp_seq ?_
    refine W_region ?_
    refine L (D_v (R_assign rfl) ?_)
    refine L (D_v (R_assign rfl) ?_)
    refine S_nil ?_
    refine T_tn ?_
    refine wp_ret ?_
    refine T_tr ?_
    refine ret2 (v := (Value.slice none 0 0)) (v2 := .bool _) rfl rfl rfl ⟨_, rfl, hE, ?_⟩
    exact ⟨_, congrArg (fun b => Value.tuple #[_, Value.bool b]) (by simp_all), by rw [encB, if_neg (by simp_all)]; exact OwnB.nil _ _⟩
  ·
    refine wp_skip ?_
    refine T_tn ?_
    refine wp_seq ?_
    refine W_region ?_
    refine L (D_v (R_fieldAddr Tryz.runUnderlying31 rfl Tryz.sizeOf3 rfl) ?_)
    refine L (D_v (R_load Tryz.isAgg3 hB1 rfl rfl) ?_)
    refine L (D_v (R_convB Tryz.runUnderlying3 rfl) ?_)
    refine L (D_v (R_fieldAddr Tryz.runUnderlying31 rfl Tryz.sizeOf3 rfl) ?_)
    refine L (D_v (R_load Tryz.isAgg3 hB1 rfl rfl) ?_)
    refine L (D_v (R_convB Tryz.runUnderlying3 rfl) ?_)
    refine L (D_v (R_fieldAddr Tryz.runUnderlying31 rfl Tryz.sizeOf3 rfl) ?_)
    refine L (D_v (R_load Tryz.isAgg3 hB1 rfl rfl) ?_)
    refine L (D_v (R_convB Tryz.runUnderlying3 rfl) ?_)
    refine L (D_v (R_fieldAddr Tryz.runUnderlying31 rfl Tryz.sizeOf3 rfl) ?_)
    refine L (D_v (R_load Tryz.isAgg3 hB1 rfl rfl) ?_)
    refine L (D_v (R_convB Tryz.runUnderlying3 rfl) ?_)
    refine L (D_v (R_fieldAddr Tryz.runUnderlying31 rfl Tryz.sizeOf3 rfl) ?_)
    refine L (D_v (R_load Tryz.isAgg3 hB1 rfl rfl) ?_)
    refine L (D_v (R_convB Tryz.runUnderlying3 rfl) ?_)
    refine L (D_v (R_fieldAddr Tryz.runUnderlying31 rfl Tryz.sizeOf27 rfl) ?_)
    refine L (D_v (R_load Tryz.isAgg27 hB1 rfl rfl) ?_)
    refine L (D_v (R_shrC (z := 8) rfl rfl (by decide) (by decide)) ?_)
    refine L (D_v (R_convB Tryz.runUnderlying27 rfl) ?_)
    refine L (D_v (R_fieldAddr Tryz.runUnderlying31 rfl Tryz.sizeOf27 rfl) ?_)
    refine L (D_v (R_load Tryz.isAgg27 hB1 rfl rfl) ?_)
    refine L (D_v (R_convB Tryz.runUnderlying27 rfl) ?_)
    refine L (D_buildB (vs := [(0, u8 (by8 (a.kind))), (1, u8 (by8 (a.slot))), (2, u8 (by8 (a.round))), (3, u8 (by8 (a.choice))), (4, u8 (by8 (a.signer))), (5, u8 (by8 ((a.support / 2 ^ 8)))), (6, u8 (by8 (a.support)))]) (b := [(by8 (a.kind)), (by8 (a.slot)), (by8 (a.round)), (by8 (a.choice)), (by8 (a.signer)), (by8 ((a.support / 2 ^ 8))), (by8 (a.support))]) Tryz.underlying32 Tryz.sizeOf5 Tryz.zeroValue5 rfl (fillB7 _ _ _ _ _ _ _) rfl rfl rfl (fun v5 w3 o6 e4 => ?_))
    replace o6 := o6.lo hE.size
    replace hE := hE.trans e4
    replace hB1 := hB1.ext e4
    refine L (D_v (R_assign rfl) ?_)
    refine S_nil ?_
    refine T_tn ?_
    refine wp_seq ?_
    refine W_held (fun W => Ext w W ∧ Blk W aB1 (a).l 31 ∧ True) mixed (fun w4 e7 => ?_)
    replace hE := hE.trans e7
    replace hB1 := hB1.ext e7
    replace o6 := o6.ext e7
    refine H_take (i := 0) rfl (by kernel_rfl) (by kernel_rfl) (by kernel_rfl) rfl (pq_then pq_body) ⟨hE, hB1, trivial⟩ rfl (fun w hw => R_move rfl) ?_
    refine H_take (i := 1) rfl (by kernel_rfl) (by kernel_rfl) (by kernel_rfl) rfl (pq_then pq_body) ⟨hE, hB1, trivial⟩ rfl (fun w hw => R_fieldAddr Tryz.runUnderlying31 rfl Tryz.sizeOf29 rfl) ?_
    refine H_take (i := 2) rfl (by kernel_rfl) (by kernel_rfl) (by kernel_rfl) rfl (pq_then pq_body) ⟨hE, hB1, trivial⟩ rfl (fun w hw => R_sliceArr (len := 7) Tryz.underlying29 Tryz.sizeOf5 rfl) ?_
    refine H_take (i := 4) rfl (by kernel_rfl) (by kernel_rfl) (by kernel_rfl) rfl (pq_then pq_body) ⟨hE, hB1, trivial⟩ rfl (fun w hw => R_fieldAddr Tryz.runUnderlying31 rfl Tryz.sizeOf29 rfl) ?_
    refine H_take (i := 5) rfl (by kernel_rfl) (by kernel_rfl) (by kernel_rfl) rfl (pq_then pq_body) ⟨hE, hB1, trivial⟩ rfl (fun w hw => R_sliceArr (len := 7) Tryz.underlying29 Tryz.sizeOf5 rfl) ?_
    refine H_op (i := 3) (by kernel_rfl) rfl rfl (D_appendB elt5 Tryz.underlying32 rfl rfl o6 (hB1.bs 6 (a.parent).b rfl rfl rfl) (by (try simp only [List.length_take, List.length_drop, List.length_append, List.length_cons, List.length_nil, Nm.b_len, be2_len]); omega) hE.size (fun v9 w5 o10 g8 => ?_))
    replace hE := hE.grown g8 (fun k hk => own_ge o6 hk)
    replace hB1 := hB1.grown g8 (o6.neB hB1 rfl)
    refine ⟨⟨hE, hB1, trivial⟩, ?_⟩
    refine H_op (i := 6) (by kernel_rfl) rfl rfl (D_appendB elt5 Tryz.underlying32 rfl rfl o10 (hB1.bs 14 (a.value).b rfl rfl rfl) (by (try simp only [List.length_take, List.length_drop, List.length_append, List.length_cons, List.length_nil, Nm.b_len, be2_len]); omega) hE.size (fun v12 w6 o13 g11 => ?_))
    replace hE := hE.grown g11 (fun k hk => own_ge o10 hk)
    replace hB1 := hB1.grown g11 (o10.neB hB1 rfl)
    refine ⟨⟨hE, hB1, trivial⟩, ?_⟩
    refine H_take (i := 7) rfl (by kernel_rfl) (by kernel_rfl) (by kernel_rfl) rfl (pq_then pq_body) ⟨hE, hB1, trivial⟩ rfl (fun w hw => R_assign rfl) ?_
    refine H_take (i := 8) rfl (by kernel_rfl) (by kernel_rfl) (by kernel_rfl) rfl (pq_then pq_body) ⟨hE, hB1, trivial⟩ rfl (fun w hw => R_assign rfl) ?_
    refine H_done (by kernel_rfl) ?_
    refine T_tn ?_
    refine wp_ret ?_
    refine ret2 (v := v12) (v2 := .bool _) rfl rfl rfl ⟨_, rfl, hE, ?_⟩
    exact ⟨_, congrArg (fun b => Value.tuple #[_, Value.bool b]) (by simp_all), by rw [encB, if_pos (by simp_all)]; first | exact o13 | (rw [be2_wrap] at o13; exact o13)⟩
end Go.Proofs.YteeopgpgbdhmhaaGreat
