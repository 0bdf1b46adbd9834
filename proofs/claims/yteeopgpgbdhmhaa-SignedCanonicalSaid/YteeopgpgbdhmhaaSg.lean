/- Signed votes and evidence as plain data; how lists of them read. No condition. -/
import Derived.Test.YteeopgpgbdhmhaaWF
import Derived.Test.YteeopgpgbdhmhaaOs
namespace Go.Proofs.Yteeopgpgbdhmhaa
open Go.RowKit
structure Sg where
  vote : Vt
  A : Option Addr
  n : Nat
  c : Nat
  sig : List UInt8
def Sg.sv (s : Sg) : Value := .slice s.A s.n s.c
def Sg.l (s : Sg) : List Value := s.vote.l ++ [.slice s.A s.n s.c]
def Sg.v (s : Sg) : Value := .agg s.l.toArray
def Sg.ok (w : World) (s : Sg) : Prop := Bs w (.slice s.A s.n s.c) s.sig
structure Ev where
  (a b : Sg)
def Ev.l (e : Ev) : List Value := e.a.l ++ e.b.l
def Ev.v (e : Ev) : Value := .agg e.l.toArray
def Ev.ok (w : World) (e : Ev) : Prop := e.a.ok w ∧ e.b.ok w
theorem Sg.ok.ext {w w' : World} {s : Sg} (h : s.ok w) (e : Ext w w') : s.ok w' := Bs.ext h e
theorem Ev.ok.ext {w w' : World} {x : Ev} (h : x.ok w) (e : Ext w w') : x.ok w' := ⟨h.1.ext e, h.2.ext e⟩
def okS (s : Sg) : Bool := valid s.vote && decide (s.sig.length = 370)
def encS (s : Sg) : List UInt8 := if okS s then encB s.vote ++ s.sig else []
def okE (e : Ev) : Bool := okS e.a && okS e.b
def encE (e : Ev) : List UInt8 := if okE e then encS e.a ++ encS e.b else []
theorem encS_len {s : Sg} (h : okS s = true) : (encS s).length = 393 := by
  have h' := h
  unfold okS at h'
  simp only [Bool.and_eq_true, decide_eq_true_eq] at h'
  unfold encS; rw [if_pos h, List.length_append, enc_len h'.1, h'.2]
theorem encS_le (s : Sg) : (encS s).length ≤ 393 := by
  by_cases h : okS s = true
  · rw [encS_len h]; exact Nat.le_refl _
  · unfold encS; rw [if_neg h]; simp
theorem encE_len {e : Ev} (h : okE e = true) : (encE e).length = 786 := by
  have h' := h
  unfold okE at h'
  simp only [Bool.and_eq_true] at h'
  unfold encE; rw [if_pos h, List.length_append, encS_len h'.1, encS_len h'.2]
theorem encE_le (e : Ev) : (encE e).length ≤ 786 := by
  by_cases h : okE e = true
  · rw [encE_len h]; exact Nat.le_refl _
  · unfold encE; rw [if_neg h]; simp
/-! lists of evidence -/
def evl (es : List Ev) : List Value := es.flatMap Ev.l
theorem Sg.l_len (s : Sg) : s.l.length = 23 := rfl
theorem Ev.l_len (e : Ev) : e.l.length = 46 := rfl
theorem evl_len (es : List Ev) : (evl es).length = es.length * 46 := by
  induction es with
  | nil => rfl
  | cons e t ih => simp only [evl, List.flatMap_cons, List.length_append, Ev.l_len, List.length_cons] at *; omega
theorem evl_at {es : List Ev} {i : Nat} {e : Ev} (h : es[i]? = some e) (k : Nat) (hk : k < 46) : (evl es)[i * 46 + k]? = e.l[k]? := by
  induction es generalizing i with
  | nil => simp at h
  | cons x t ih =>
    cases i with
    | zero =>
      simp at h; subst h
      simp only [evl, List.flatMap_cons]
      rw [List.getElem?_append_left (by rw [Ev.l_len]; omega)]
      simp
    | succ i =>
      simp at h
      simp only [evl, List.flatMap_cons]
      rw [List.getElem?_append_right (by rw [Ev.l_len]; omega), Ev.l_len, show (i + 1) * 46 + k - 46 = i * 46 + k by omega]
      exact ih h
def Es (w : World) (v : Value) (es : List Ev) : Prop := Rs w v es.length 46 (evl es) ∧ ∀ e ∈ es, e.ok w
theorem Es.ext {w w' : World} {v : Value} {es : List Ev} (h : Es w v es) (x : Ext w w') : Es w' v es := ⟨Rs.ext h.1 x, fun e he => (h.2 e he).ext x⟩
/-! Build -/
def bldS : List Ev → Int → List UInt8 → Option (List UInt8)
  | [], _, acc => some acc
  | e :: t, p, acc => if okE e && decide (p < e.a.vote.signer) then bldS t e.a.vote.signer (acc ++ encE e) else none
def build (es : List Ev) : List UInt8 × Bool :=
  if es.length = 0 ∨ 10 < es.length then ([], false) else (match bldS es (-1) [by8 ((es.length : Nat) : Int)] with | some b => (b, true) | none => ([], false))
theorem drop_at {es : List Ev} {i : Nat} {e : Ev} (h : es[i]? = some e) : es.drop i = e :: es.drop (i + 1) := by
  obtain ⟨hi, rfl⟩ := List.getElem?_eq_some_iff.1 h
  exact List.drop_eq_getElem_cons hi
theorem bld_step {es : List Ev} {i : Nat} {e : Ev} {p : Int} {acc : List UInt8} {Z : Option (List UInt8)} (h : bldS (es.drop i) p acc = Z) (he : es[i]? = some e) (hk : okE e = true) (hp : p < e.a.vote.signer) : bldS (es.drop (i + 1)) e.a.vote.signer (acc ++ encE e) = Z := by
  rw [drop_at he, bldS, if_pos (by simp [hk, hp])] at h; exact h
theorem bld_fail {es : List Ev} {i : Nat} {e : Ev} {p : Int} {acc : List UInt8} {Z : Option (List UInt8)} (h : bldS (es.drop i) p acc = Z) (he : es[i]? = some e) (hk : ¬ (okE e = true ∧ p < e.a.vote.signer)) : Z = none := by
  rw [drop_at he, bldS, if_neg (by simpa using hk)] at h; exact h.symm
theorem bld_end {es : List Ev} {i : Nat} {p : Int} {acc : List UInt8} {Z : Option (List UInt8)} (h : bldS (es.drop i) p acc = Z) (hi : ¬ i < es.length) : Z = some acc := by
  rw [List.drop_eq_nil_of_le (by omega), bldS] at h; exact h.symm
theorem build_some {es : List Ev} {acc : List UInt8} (hb : es.length ≤ 10) (h0 : 0 < es.length) (h : bldS es (-1) [by8 ((es.length : Nat) : Int)] = some acc) : build es = (acc, true) := by
  unfold build; rw [if_neg (by omega), h]
theorem build_none {es : List Ev} (h : ¬ (es.length ≤ 10 ∧ 0 < es.length) ∨ bldS es (-1) [by8 ((es.length : Nat) : Int)] = none) : build es = ([], false) := by
  unfold build
  by_cases hc : es.length = 0 ∨ 10 < es.length
  · rw [if_pos hc]
  · rw [if_neg hc]
    rcases h with h | h
    · omega
    · rw [h]
theorem signer_pos {e : Ev} (h : okE e = true) : 0 ≤ e.a.vote.signer := by
  unfold okE okS at h
  simp only [Bool.and_eq_true] at h
  have hv := h.1.1
  unfold valid between at hv
  simp only [Bool.and_eq_true, decide_eq_true_eq] at hv
  exact hv.1.1.1.2.1
theorem prev_ex {es : List Ev} {i : Nat} (lk : i < es.length) : ∃ x, 0 < i → es[i - 1]? = some x :=
  ⟨es[i - 1]'(by omega), fun _ => List.getElem?_eq_getElem _⟩
theorem prev_cmp {es : List Ev} {i : Nat} {p : Int} {e x : Ev} (hp : (i = 0 ∧ p = -1) ∨ (0 < i ∧ ∃ x, es[i - 1]? = some x ∧ p = x.a.vote.signer)) (hx : 0 < i → es[i - 1]? = some x) (hk : okE e = true) : p < e.a.vote.signer ↔ ¬ (0 < i ∧ e.a.vote.signer ≤ x.a.vote.signer) := by
  have := signer_pos hk
  rcases hp with ⟨h0, h1⟩ | ⟨h0, y, hy, h1⟩
  · omega
  · rw [hx h0] at hy; cases hy; omega
section
variable {P : Program} {ρ : Operand → Value} {w : World} {dst : Option Tmp} {ty : TypeId} {pos : String} {aft : Array Edge} {gd : Option (Nat × Bool)}
theorem loadCells_at {a : Addr} {cs : List Value} (h : ∀ j v, cs[j]? = some v → w.cell? (a.add j) = some v) : (loadCells a cs.length).run P w = .ok cs.toArray w := run_loadCells_list w a cs h
/-- a whole element, out of a list -/
theorem R_loadElA {t : TypeId} {x : Operand} {v : Value} {m sz j s : Nat} {cs c : List Value} (ht : ∀ w, (isAgg t).run P w = .ok true w) (hs : ∀ w, (sizeOf t).run P w = .ok s w) (hx : ρ x = elV v j) (h : Rs w v m sz cs) (hl : c.length = s) (hp : 0 < s) (hu : ∀ k, k < s → cs[j + k]? = c[k]?) :
    (execOp ρ ⟨dst, .load t x, ty, pos, aft, gd⟩).run P w = .ok (.value (.agg c.toArray)) w := by
  obtain ⟨_, A, cap, rfl, _, _, _, hc⟩ := h
  have h0 := hu 0 hp
  rw [List.getElem?_eq_getElem (show 0 < c.length by omega)] at h0
  obtain ⟨ad, rfl, _⟩ := hc _ _ h0
  have hx' : ρ x = .pointer (some (ad.add j)) := hx
  have hcell : ∀ k v, c[k]? = some v → w.cell? ((ad.add j).add k) = some v := by
    intro k v hv
    have hk : k < c.length := (List.getElem?_eq_some_iff.1 hv).1
    obtain ⟨ad', e, hc'⟩ := hc (j + k) v (by rw [hu k (by omega)]; exact hv)
    cases e
    rw [add_add']; exact hc'
  have := loadCells_at (P := P) hcell
  rw [hl] at this
  unfold loadCells at this
  simp [go_sem, hx', Instr.loadAt, Instr.sureAddr, loadVar, ht, hs, this]
theorem R_fieldEl {t : TypeId} {j k : Nat} {x : Operand} {v : Value} {s : Nat} {fs : Array Field} {fd : Field} (ht : ∀ w, (underlying t).run P w = .ok (.struct fs) w) (hj : fs[j]? = some fd) (hs : ∀ w, (sizeOf fd.type).run P w = .ok (s + 1) w) {m sz : Nat} {cs : List Value} {w1 : World} (h : Rs w1 v m sz cs) (hk : k < cs.length) (hx : ρ x = elV v k) :
    (execOp ρ ⟨dst, .fieldAddr t x j, ty, pos, aft, gd⟩).run P w = .ok (.value (elV v (k + fd.offset))) w := by
  obtain ⟨_, A, cap, rfl, _, _, _, hc⟩ := h
  obtain ⟨ad, rfl, _⟩ := hc k _ (List.getElem?_eq_getElem hk)
  have hx' : ρ x = .pointer (some (ad.add k)) := hx
  simp [go_sem, hx', ht, hj, hs, elV, add_add']
end
end Go.Proofs.Yteeopgpgbdhmhaa
