/- What the trees of names, the one-time and the many-time signatures compute, as plain data. No condition. -/
import Derived.Test.YteeopgpgbdhmhaaLl
namespace Go.Proofs.Yteeopgpgbdhmhaa
open Go.RowKit
set_option linter.unusedVariables false
attribute [local irreducible] hashB valid nameV
def pairH (t : UInt8) (a b : Nm) : Nm := hashB (t :: (a.b ++ b.b))
def leafH (a : Nm) : Nm := hashB (17 :: a.b)
def spl (n : Nat) : Nat → Nat → Nat
  | 0, k => k
  | f + 1, k => if k < n - k then spl n f (k * 2) else k
def split (n : Nat) : Nat := spl n n 1
theorem spl_bound (n : Nat) (hn : 2 ≤ n) : ∀ f k, 1 ≤ k → k < n → 1 ≤ spl n f k ∧ spl n f k < n := by
  intro f
  induction f with
  | zero => intro k h1 h2; exact ⟨h1, h2⟩
  | succ f ih =>
    intro k h1 h2
    unfold spl
    split
    · exact ih _ (by omega) (by omega)
    · exact ⟨h1, h2⟩
theorem split_bound {n : Nat} (hn : 2 ≤ n) : 1 ≤ split n ∧ split n < n := spl_bound n hn n 1 (by omega) (by omega)
theorem spl_end {n f k : Nat} (h : ¬ k < n - k) : spl n f k = k := by
  cases f with
  | zero => rfl
  | succ f => unfold spl; rw [if_neg h]
theorem spl_step {n f k : Nat} (h : k < n - k) : spl n (f + 1) k = spl n f (k * 2) := by
  show (if k < n - k then spl n f (k * 2) else k) = _
  rw [if_pos h]
def dep : Nat → Nat → Nat → Nat
  | 0, _, _ => 0
  | f + 1, i, n => if 1 < n then (if i < split n then dep f i (split n) else dep f (i - split n) (n - split n)) + 1 else 0
theorem dep_end {f i n : Nat} (h : ¬ 1 < n) : dep f i n = 0 := by
  cases f with
  | zero => rfl
  | succ f => unfold dep; rw [if_neg h]
theorem dep_lo {f i n : Nat} (h : 1 < n) (hi : i < split n) : dep (f + 1) i n = dep f i (split n) + 1 := by
  show (if 1 < n then _ else _) = _
  rw [if_pos h, if_pos hi]
theorem dep_hi {f i n : Nat} (h : 1 < n) (hi : ¬ i < split n) : dep (f + 1) i n = dep f (i - split n) (n - split n) + 1 := by
  show (if 1 < n then _ else _) = _
  rw [if_pos h, if_neg hi]
theorem dep_le : ∀ f i n, dep f i n ≤ f := by
  intro f
  induction f with
  | zero => intro i n; exact Nat.le_refl _
  | succ f ih =>
    intro i n
    by_cases h : 1 < n
    · by_cases hi : i < split n
      · rw [dep_lo h hi]; have := ih i (split n); omega
      · rw [dep_hi h hi]; have := ih (i - split n) (n - split n); omega
    · rw [dep_end h]; omega
theorem dep_le_n : ∀ f i n, dep f i n ≤ n := by
  intro f
  induction f with
  | zero => intro i n; exact Nat.zero_le _
  | succ f ih =>
    intro i n
    by_cases h : 1 < n
    · have hs := split_bound (n := n) (by omega)
      by_cases hi : i < split n
      · rw [dep_lo h hi]; have := ih i (split n); omega
      · rw [dep_hi h hi]; have := ih (i - split n) (n - split n); omega
    · rw [dep_end h]; exact Nat.zero_le _
def cmp : Nat → Nm → Nat → Nat → List Nm → Nm
  | 0, leaf, _, _, _ => leafH leaf
  | f + 1, leaf, i, n, path =>
    if n = 1 then leafH leaf
    else if i < split n then pairH 18 (cmp f leaf i (split n) (path.take (path.length - 1))) (path.getD (path.length - 1) Nm.zero)
    else pairH 18 (path.getD (path.length - 1) Nm.zero) (cmp f leaf (i - split n) (n - split n) (path.take (path.length - 1)))
theorem cmp_one {f : Nat} {leaf : Nm} {i : Nat} {path : List Nm} : cmp (f + 1) leaf i 1 path = leafH leaf := by unfold cmp; rw [if_pos rfl]
theorem cmp_lo {f n i : Nat} {leaf : Nm} {path : List Nm} (h : n ≠ 1) (hi : i < split n) : cmp (f + 1) leaf i n path = pairH 18 (cmp f leaf i (split n) (path.take (path.length - 1))) (path.getD (path.length - 1) Nm.zero) := by
  show (if n = 1 then _ else _) = _
  rw [if_neg h, if_pos hi]
theorem cmp_hi {f n i : Nat} {leaf : Nm} {path : List Nm} (h : n ≠ 1) (hi : ¬ i < split n) : cmp (f + 1) leaf i n path = pairH 18 (path.getD (path.length - 1) Nm.zero) (cmp f leaf (i - split n) (n - split n) (path.take (path.length - 1))) := by
  show (if n = 1 then _ else _) = _
  rw [if_neg h, if_neg hi]
/-! one-time signatures -/
def drest (m : Nm) : Nat := 240 - (m.b0.toNat / 16 + m.b0.toNat % 16) - (m.b1.toNat / 16 + m.b1.toNat % 16) - (m.b2.toNat / 16 + m.b2.toNat % 16) - (m.b3.toNat / 16 + m.b3.toNat % 16) - (m.b4.toNat / 16 + m.b4.toNat % 16) - (m.b5.toNat / 16 + m.b5.toNat % 16) - (m.b6.toNat / 16 + m.b6.toNat % 16) - (m.b7.toNat / 16 + m.b7.toNat % 16)
def digits (m : Nm) : List Nat := [m.b0.toNat / 16, m.b0.toNat % 16, m.b1.toNat / 16, m.b1.toNat % 16, m.b2.toNat / 16, m.b2.toNat % 16, m.b3.toNat / 16, m.b3.toNat % 16, m.b4.toNat / 16, m.b4.toNat % 16, m.b5.toNat / 16, m.b5.toNat % 16, m.b6.toNat / 16, m.b6.toNat % 16, m.b7.toNat / 16, m.b7.toNat % 16, drest m / 16, drest m % 16]
theorem digits_len (m : Nm) : (digits m).length = 18 := rfl
theorem hl16 (b : UInt8) : b.toNat / 16 ≤ 15 ∧ b.toNat % 16 ≤ 15 := by have := b.toNat_lt; omega
theorem sub8 (n a b c d e f g h : Nat) : n - a - b - c - d - e - f - g - h ≤ n := by omega
theorem drest_le (m : Nm) : drest m ≤ 240 := sub8 240 _ _ _ _ _ _ _ _
theorem digits_le (m : Nm) : ∀ d ∈ digits m, d ≤ 15 := by
  have h8 := drest_le m
  have h9 : drest m / 16 ≤ 15 := by omega
  have h10 : drest m % 16 ≤ 15 := by omega
  unfold digits
  simp only [List.forall_mem_cons]
  exact ⟨(hl16 _).1, (hl16 _).2, (hl16 _).1, (hl16 _).2, (hl16 _).1, (hl16 _).2, (hl16 _).1, (hl16 _).2, (hl16 _).1, (hl16 _).2, (hl16 _).1, (hl16 _).2, (hl16 _).1, (hl16 _).2, (hl16 _).1, (hl16 _).2, h9, h10, by simp⟩
theorem digit_le (m : Nm) (c : Nat) : (digits m).getD c 0 ≤ 15 := by
  by_cases h : c < (digits m).length
  · refine digits_le m _ ?_
    rw [List.getD_eq_getElem?_getD, List.getElem?_eq_getElem h]
    exact List.getElem_mem h
  · rw [List.getD_eq_getElem?_getD, List.getElem?_eq_none (by omega)]; simp
def itr {α : Type} (F : Nat → α → α) : Nat → Nat → α → α
  | 0, _, v => v
  | k + 1, p, v => itr F k (p + 1) (F p v)
theorem itr_zero {α : Type} (F : Nat → α → α) (p : Nat) (v : α) : itr F 0 p v = v := rfl
theorem itr_succ {α : Type} (F : Nat → α → α) (k p : Nat) (v : α) : itr F (k + 1) p v = itr F k (p + 1) (F p v) := rfl
def wst (c p : Nat) (v : Nm) : Nm := hashB (33 :: (v.b ++ [by8 ((c : Nat) : Int), by8 ((p : Nat) : Int)]))
def wk (c k p : Nat) (v : Nm) : Nm := itr (wst c) k p v
theorem wk_zero (c p : Nat) (v : Nm) : wk c 0 p v = v := itr_zero _ _ _
theorem wk_succ (c k p : Nat) (v : Nm) : wk c (k + 1) p v = wk c k (p + 1) (wst c p v) := itr_succ _ _ _ _
theorem wk_step {c k p i : Nat} {V : Nm} {Z : Nm} (h : wk c (k - i) (p + i) V = Z) (hi : i < k) : wk c (k - (i + 1)) (p + (i + 1)) (wst c (p + i) V) = Z := by
  rw [show k - i = (k - (i + 1)) + 1 by omega, wk_succ, Nat.add_assoc p i 1] at h; exact h
def pubE (es : List Nm) : Nm := hashB (34 :: es.flatMap Nm.b)
def recL (m : Nm) (sig : List Nm) : List Nm := (List.range 18).map fun c => wk c (15 - (digits m).getD c 0) ((digits m).getD c 0) (sig.getD c Nm.zero)
def recN (m : Nm) (sig : List Nm) : Nm := pubE (recL m sig)
theorem recL_len (m : Nm) (sig : List Nm) : (recL m sig).length = 18 := by simp [recL]
theorem recL_at (m : Nm) (sig : List Nm) {c : Nat} (hc : c < 18) : (recL m sig)[c]? = some (wk c (15 - (digits m).getD c 0) ((digits m).getD c 0) (sig.getD c Nm.zero)) := by
  simp [recL, hc]
/-- a list that is filled from the front -/
theorem fill_next {α : Type} {es sp : List α} {c : Nat} {x : α} (h : es.take c = sp.take c) (hc : c < es.length) (hs : sp[c]? = some x) : (es.set c x).take (c + 1) = sp.take (c + 1) := by
  obtain ⟨h1, rfl⟩ := List.getElem?_eq_some_iff.1 hs
  have h2 : c < (es.set c sp[c]).length := by simpa using hc
  rw [List.take_succ_eq_append_getElem h2, List.take_succ_eq_append_getElem h1, List.take_set, List.getElem_set_self, ← h, List.set_eq_of_length_le (by simp; omega)]
theorem fill_all {α : Type} {es sp : List α} {c : Nat} (h : es.take c = sp.take c) (h1 : es.length ≤ c) (h2 : sp.length ≤ c) : es = sp := by
  rwa [List.take_of_length_le h1, List.take_of_length_le h2] at h
theorem push_next {α : Type} {es sp : List α} {c : Nat} {x : α} (h : es = sp.take c) (hs : sp[c]? = some x) : es ++ [x] = sp.take (c + 1) := by
  obtain ⟨h1, rfl⟩ := List.getElem?_eq_some_iff.1 hs
  rw [List.take_succ_eq_append_getElem h1, h]
theorem push_all {α : Type} {es sp : List α} {c : Nat} (h : es = sp.take c) (h2 : sp.length ≤ c) : es = sp := by
  rwa [List.take_of_length_le h2] at h
theorem flat_next {es : List Nm} {i : Nat} {x : Nm} {b : List UInt8} (h : b = (es.take i).flatMap Nm.b) (hx : es[i]? = some x) : b ++ x.b = (es.take (i + 1)).flatMap Nm.b := by
  obtain ⟨h1, rfl⟩ := List.getElem?_eq_some_iff.1 hx
  rw [List.take_succ_eq_append_getElem h1, h, List.flatMap_append]
  simp only [List.flatMap_cons, List.flatMap_nil, List.append_nil]
theorem flat_len (es : List Nm) : (es.flatMap Nm.b).length = es.length * 8 := by
  induction es with
  | nil => rfl
  | cons x t ih => simp only [List.flatMap_cons, List.length_append, ih, Nm.b_len, List.length_cons]; omega
/-! many-time signatures -/
theorem sh8_or (x : Int) (b : UInt8) : sh8 x b = bits .or .u64 (IntKind.wrap .u64 (x * 2 ^ 8)) (b.toNat : Int) := by
  have hb := b.toNat_lt
  unfold sh8
  rw [show min (8 : Int).toNat IntKind.u64.bits = 8 by decide, show IntKind.wrap .u64 (b.toNat : Int) = (b.toNat : Int) by rw [IntKind.wrap_u64]; omega]
def nmsAt (b : List UInt8) (o n : Nat) : List Nm := (List.range n).map fun i => nmAt b (o + i * 8)
theorem nmsAt_len (b : List UInt8) (o n : Nat) : (nmsAt b o n).length = n := by simp [nmsAt]
theorem nmsAt_at (b : List UInt8) (o n : Nat) {i : Nat} (hi : i < n) : (nmsAt b o n)[i]? = some (nmAt b (o + i * 8)) := by simp [nmsAt, hi]
def clim (b : List UInt8) (o j : Nat) (m : Nm) : Nm := cmp 32 (recN m (nmsAt b o 18)) j 32 (nmsAt b (o + 144) 5)
theorem dep32 : ∀ j, j < 32 → dep 32 j 32 = 5 := by decide
def leafNo (b : List UInt8) : Nat := (b.getD 0 0).toNat * 256 + (b.getD 1 0).toNat
def ver (pub m : Nm) (b : List UInt8) : Bool := decide (b.length = 370) && (decide (leafNo b < 1024) && decide (clim b 186 (leafNo b / 32) (clim b 2 (leafNo b % 32) m) = pub))
/-- a signed vote, evidence: what they hold -/
abbrev Pv := Vt × List UInt8
def Sg.p (s : Sg) : Pv := (s.vote, s.sig)
def Ev.p (e : Ev) : Pv × Pv := (e.a.p, e.b.p)
def Pv.zero : Pv := (Vt.zero, [])
def verP (key : Nm) (s : Pv) : Bool := valid s.1 && ver key (nameV s.1) s.2
/-! decoding -/
def decS (b : List UInt8) : Pv × Int :=
  if b.length < 393 then (Pv.zero, 2) else if 393 < b.length then (Pv.zero, 3)
  else if (dec (b.take 23)).2 = 0 then (((dec (b.take 23)).1, b.drop 23), 0) else (Pv.zero, (dec (b.take 23)).2)
def decE (b : List UInt8) : (Pv × Pv) × Int :=
  if b.length < 786 then ((Pv.zero, Pv.zero), 2) else if 786 < b.length then ((Pv.zero, Pv.zero), 3)
  else if (decS (b.take 393)).2 = 0 then
    if (decS (b.drop 393)).2 = 0 then (((decS (b.take 393)).1, (decS (b.drop 393)).1), 0) else ((Pv.zero, Pv.zero), (decS (b.drop 393)).2)
  else ((Pv.zero, Pv.zero), (decS (b.take 393)).2)
theorem take0 (b : List UInt8) (n : Nat) : ((b.drop 0).take (n - 0)) = b.take n := by simp
theorem dropn (b : List UInt8) (n : Nat) : ((b.drop n).take (b.length - n)) = b.drop n := List.take_of_length_le (by rw [List.length_drop]; exact Nat.le_refl _)
theorem decS_short {b : List UInt8} (h : b.length < 393) : decS b = (Pv.zero, 2) := by unfold decS; rw [if_pos h]
theorem decS_long {b : List UInt8} (h : 393 < b.length) : decS b = (Pv.zero, 3) := by unfold decS; rw [if_neg (by omega), if_pos h]
theorem decS_bad {b : List UInt8} (h : b.length = 393) (hd : (dec (b.take 23)).2 ≠ 0) : decS b = (Pv.zero, (dec (b.take 23)).2) := by unfold decS; rw [if_neg (by omega), if_neg (by omega), if_neg hd]
theorem decS_ok {b : List UInt8} (h : b.length = 393) (hd : (dec (b.take 23)).2 = 0) : decS b = (((dec (b.take 23)).1, b.drop 23), 0) := by unfold decS; rw [if_neg (by omega), if_neg (by omega), if_pos hd]
theorem dec_err {b : List UInt8} (h : b.length = 23) : (dec b).2 = 0 ∨ (dec b).2 = 11 := by
  unfold dec
  rw [if_neg (by omega), if_neg (by omega)]
  split
  · exact .inl rfl
  · exact .inr rfl
theorem decS_err {b : List UInt8} (h : b.length = 393) : (decS b).2 = 0 ∨ (decS b).2 = 11 := by
  rcases dec_err (b := b.take 23) (by rw [List.length_take]; omega) with h1 | h1
  · rw [decS_ok h h1]; exact .inl rfl
  · rw [decS_bad h (by rw [h1]; decide)]; exact .inr h1
theorem decE_short {b : List UInt8} (h : b.length < 786) : decE b = ((Pv.zero, Pv.zero), 2) := by unfold decE; rw [if_pos h]
theorem decE_long {b : List UInt8} (h : 786 < b.length) : decE b = ((Pv.zero, Pv.zero), 3) := by unfold decE; rw [if_neg (by omega), if_pos h]
theorem decE_a {b : List UInt8} (h : b.length = 786) (h1 : (decS (b.take 393)).2 ≠ 0) : decE b = ((Pv.zero, Pv.zero), (decS (b.take 393)).2) := by unfold decE; rw [if_neg (by omega), if_neg (by omega), if_neg h1]
theorem decE_b {b : List UInt8} (h : b.length = 786) (h1 : (decS (b.take 393)).2 = 0) (h2 : (decS (b.drop 393)).2 ≠ 0) : decE b = ((Pv.zero, Pv.zero), (decS (b.drop 393)).2) := by unfold decE; rw [if_neg (by omega), if_neg (by omega), if_pos h1, if_neg h2]
theorem decE_ok {b : List UInt8} (h : b.length = 786) (h1 : (decS (b.take 393)).2 = 0) (h2 : (decS (b.drop 393)).2 = 0) : decE b = (((decS (b.take 393)).1, (decS (b.drop 393)).1), 0) := by unfold decE; rw [if_neg (by omega), if_neg (by omega), if_pos h1, if_pos h2]
theorem decE_bad {b : List UInt8} (h : b.length = 786) (h1 : (decS (b.take 393)).2 ≠ 0 ∨ (decS (b.drop 393)).2 ≠ 0) : decE b = ((Pv.zero, Pv.zero), 11) := by
  have e1 := decS_err (b := b.take 393) (by rw [List.length_take]; omega)
  have e2 := decS_err (b := b.drop 393) (by rw [List.length_drop]; omega)
  by_cases h3 : (decS (b.take 393)).2 = 0
  · rcases h1 with h1 | h1
    · exact absurd h3 h1
    · rw [decE_b h h3 h1]; rcases e2 with e2 | e2
      · exact absurd e2 h1
      · rw [e2]
  · rw [decE_a h h3]; rcases e1 with e1 | e1
    · exact absurd e1 h3
    · rw [e1]
/-! checking -/
def keyAt (keys : List Nm) (s : Int) : Nm := keys.getD s.toNat Nm.zero
def verK (keys : List Nm) (s : Pv) : Bool := decide (0 ≤ s.1.signer) && decide (s.1.signer < ((keys.length : Nat) : Int)) && verP (keyAt keys s.1.signer) s
def flt (keys : List Nm) (e : Pv × Pv) (before : Int) : Int :=
  if !(conflict e.1.1 e.2.1) || !(lessV e.1.1 e.2.1) then 9
  else if e.1.1.signer ≤ before then 10
  else if decide (((keys.length : Nat) : Int) ≤ e.1.1.signer) || !(verP (keyAt keys e.1.1.signer) e.1) || !(verP (keyAt keys e.1.1.signer) e.2) then 8
  else 0
def bitI (s : Int) : Int := 2 ^ s.toNat
def chkS (keys : List Nm) : Nat → List UInt8 → Int → Int → Int × Int
  | 0, _, _, g => (g, 0)
  | n + 1, r, p, g =>
    if (decE (r.take 786)).2 ≠ 0 then (0, (decE (r.take 786)).2)
    else if flt keys (decE (r.take 786)).1 p ≠ 0 then (0, flt keys (decE (r.take 786)).1 p)
    else chkS keys n (r.drop 786) (decE (r.take 786)).1.1.1.signer (bits .or .i64 g (bitI (decE (r.take 786)).1.1.1.signer))
def chk (keys : List Nm) (b : List UInt8) : Int × Int :=
  if b.length = 0 then (0, 2)
  else if (b.getD 0 0).toNat = 0 ∨ 10 < (b.getD 0 0).toNat then (0, 4)
  else if b.length < 1 + 786 * (b.getD 0 0).toNat then (0, 2)
  else if 1 + 786 * (b.getD 0 0).toNat < b.length then (0, 3)
  else chkS keys (b.getD 0 0).toNat (b.drop 1) (-1) 0
theorem valid_signer {a : Vt} (h : valid a = true) : 0 ≤ a.signer ∧ a.signer ≤ 9 := by
  unfold valid between at h
  simp only [Bool.and_eq_true, decide_eq_true_eq] at h
  exact h.1.1.1.2
theorem conflict_parts {a b : Vt} (h : conflict a b = true) : valid a = true ∧ valid b = true ∧ sameKey a b = true ∧ a ≠ b := by
  unfold conflict at h
  simp only [Bool.and_eq_true, Bool.not_eq_true', decide_eq_false_iff_not] at h
  exact ⟨h.1.2, h.2, h.1.1.2, h.1.1.1⟩
theorem sameKey_signer {a b : Vt} (h : sameKey a b = true) : a.signer = b.signer := by
  unfold sameKey at h
  simp only [Bool.and_eq_true, beq_iff_eq] at h
  exact h.2
theorem flt_9 {keys : List Nm} {e : Pv × Pv} {p : Int} (h : (!(conflict e.1.1 e.2.1) || !(lessV e.1.1 e.2.1)) = true) : flt keys e p = 9 := by unfold flt; rw [if_pos h]
theorem flt_10 {keys : List Nm} {e : Pv × Pv} {p : Int} (h : (!(conflict e.1.1 e.2.1) || !(lessV e.1.1 e.2.1)) = false) (h1 : e.1.1.signer ≤ p) : flt keys e p = 10 := by unfold flt; rw [if_neg (by rw [h]; decide), if_pos h1]
theorem flt_8 {keys : List Nm} {e : Pv × Pv} {p : Int} (h : (!(conflict e.1.1 e.2.1) || !(lessV e.1.1 e.2.1)) = false) (h1 : ¬ e.1.1.signer ≤ p) (h2 : (decide (((keys.length : Nat) : Int) ≤ e.1.1.signer) || !(verP (keyAt keys e.1.1.signer) e.1) || !(verP (keyAt keys e.1.1.signer) e.2)) = true) : flt keys e p = 8 := by
  unfold flt; rw [if_neg (by rw [h]; decide), if_neg h1, if_pos h2]
theorem flt_0 {keys : List Nm} {e : Pv × Pv} {p : Int} (h : (!(conflict e.1.1 e.2.1) || !(lessV e.1.1 e.2.1)) = false) (h1 : ¬ e.1.1.signer ≤ p) (h2 : (decide (((keys.length : Nat) : Int) ≤ e.1.1.signer) || !(verP (keyAt keys e.1.1.signer) e.1) || !(verP (keyAt keys e.1.1.signer) e.2)) = false) : flt keys e p = 0 := by
  unfold flt; rw [if_neg (by rw [h]; decide), if_neg h1, if_neg (by rw [h2]; decide)]
theorem or_nots {a b : Bool} (h : (!a || !b) = false) : a = true ∧ b = true := by cases a <;> cases b <;> simp_all
theorem flt_parts {keys : List Nm} {e : Pv × Pv} {p : Int} (h : flt keys e p = 0) : conflict e.1.1 e.2.1 = true ∧ lessV e.1.1 e.2.1 = true ∧ p < e.1.1.signer ∧ verK keys e.1 = true ∧ verK keys e.2 = true := by
  unfold flt at h
  split at h
  · cases h
  · rename_i h1
    split at h
    · cases h
    · rename_i h2
      split at h
      · cases h
      · rename_i h3
        obtain ⟨c1, c2⟩ := or_nots (by simpa using h1 : (!(conflict e.1.1 e.2.1) || !(lessV e.1.1 e.2.1)) = false)
        obtain ⟨v1, v2, v3, _⟩ := conflict_parts c1
        have hs := valid_signer v1
        have he := sameKey_signer v3
        simp only [Bool.or_eq_true, decide_eq_true_eq, Bool.not_eq_true', not_or, Bool.not_eq_false] at h3
        refine ⟨c1, c2, by omega, ?_, ?_⟩
        · unfold verK
          rw [h3.1.2, decide_eq_true hs.1, decide_eq_true (show e.1.1.signer < _ by omega)]; rfl
        · unfold verK
          rw [← he, h3.2, decide_eq_true hs.1, decide_eq_true (show e.1.1.signer < _ by omega)]; rfl
theorem flt_signer {keys : List Nm} {e : Pv × Pv} {p : Int} (h : flt keys e p = 0) : 0 ≤ e.1.1.signer ∧ e.1.1.signer ≤ 9 := valid_signer (conflict_parts (flt_parts h).1).1
/-- the signatures as the reference asks for them -/
theorem ver_ref {keys : List Nm} {e : Pv × Pv} (h : (!(conflict e.1.1 e.2.1) || !(lessV e.1.1 e.2.1)) = false) :
    (!(verK keys e.1) || !(verK keys e.2)) = (decide (((keys.length : Nat) : Int) ≤ e.1.1.signer) || !(verP (keyAt keys e.1.1.signer) e.1) || !(verP (keyAt keys e.1.1.signer) e.2)) := by
  obtain ⟨c1, c2⟩ := or_nots h
  obtain ⟨v1, v2, v3, _⟩ := conflict_parts c1
  have hs := valid_signer v1
  have he := sameKey_signer v3
  unfold verK
  rw [← he, decide_eq_true hs.1]
  by_cases h1 : e.1.1.signer < ((keys.length : Nat) : Int)
  · rw [decide_eq_true h1, decide_eq_false (show ¬ _ ≤ e.1.1.signer by omega)]; simp
  · rw [decide_eq_false h1, decide_eq_true (show _ ≤ e.1.1.signer by omega)]; simp
theorem chkS_bad {keys : List Nm} {n : Nat} {r : List UInt8} {p g : Int} (h : (decE (r.take 786)).2 ≠ 0) : chkS keys (n + 1) r p g = (0, (decE (r.take 786)).2) := by
  show (if _ then _ else _) = _
  rw [if_pos h]
theorem chkS_flt {keys : List Nm} {n : Nat} {r : List UInt8} {p g : Int} (h : (decE (r.take 786)).2 = 0) (h1 : flt keys (decE (r.take 786)).1 p ≠ 0) : chkS keys (n + 1) r p g = (0, flt keys (decE (r.take 786)).1 p) := by
  show (if _ then _ else if _ then _ else _) = _
  rw [if_neg (by simpa using h), if_pos h1]
theorem chkS_next {keys : List Nm} {n : Nat} {r : List UInt8} {p g : Int} (h : (decE (r.take 786)).2 = 0) (h1 : flt keys (decE (r.take 786)).1 p = 0) : chkS keys (n + 1) r p g = chkS keys n (r.drop 786) (decE (r.take 786)).1.1.1.signer (bits .or .i64 g (bitI (decE (r.take 786)).1.1.1.signer)) := by
  show (if _ then _ else if _ then _ else _) = _
  rw [if_neg (by simpa using h), if_neg (by simpa using h1)]
theorem chk_0 {keys : List Nm} {b : List UInt8} (h : b.length = 0) : chk keys b = (0, 2) := by unfold chk; rw [if_pos h]
theorem chk_4 {keys : List Nm} {b : List UInt8} (h : b.length ≠ 0) (h1 : (b.getD 0 0).toNat = 0 ∨ 10 < (b.getD 0 0).toNat) : chk keys b = (0, 4) := by unfold chk; rw [if_neg h, if_pos h1]
theorem chk_2 {keys : List Nm} {b : List UInt8} (h : b.length ≠ 0) (h1 : ¬ ((b.getD 0 0).toNat = 0 ∨ 10 < (b.getD 0 0).toNat)) (h2 : b.length < 1 + 786 * (b.getD 0 0).toNat) : chk keys b = (0, 2) := by unfold chk; rw [if_neg h, if_neg h1, if_pos h2]
theorem chk_3 {keys : List Nm} {b : List UInt8} (h : b.length ≠ 0) (h1 : ¬ ((b.getD 0 0).toNat = 0 ∨ 10 < (b.getD 0 0).toNat)) (h2 : 1 + 786 * (b.getD 0 0).toNat < b.length) : chk keys b = (0, 3) := by unfold chk; rw [if_neg h, if_neg h1, if_neg (by omega), if_pos h2]
theorem chk_S {keys : List Nm} {b : List UInt8} (h : b.length ≠ 0) (h1 : ¬ ((b.getD 0 0).toNat = 0 ∨ 10 < (b.getD 0 0).toNat)) (h2 : b.length = 1 + 786 * (b.getD 0 0).toNat) : chk keys b = chkS keys (b.getD 0 0).toNat (b.drop 1) (-1) 0 := by unfold chk; rw [if_neg h, if_neg h1, if_neg (by omega), if_neg (by omega)]
def bitR (i : Int) : Int := if i < 0 ∨ 10 ≤ i then 0 else bitI i
theorem bitR_in {i : Int} (h : 0 ≤ i ∧ i ≤ 9) : bitR i = bitI i := by unfold bitR; rw [if_neg (by omega)]
def validE (keys : List Nm) (e : Pv × Pv) : Bool := conflict e.1.1 e.2.1 && lessV e.1.1 e.2.1 && verK keys e.1 && verK keys e.2
section
variable {P : Program} {ρ : Operand → Value} {w : World} {dst : Option Tmp} {ty : TypeId} {pos : String} {aft : Array Edge} {gd : Option (Nat × Bool)} {t t' : TypeId} {x y : Operand}
theorem R_or8 {a b : UInt8} (hx : ρ x = .int .i64 (IntKind.wrap .i64 ((a.toNat : Int) * 2 ^ 8))) (hy : ρ y = .int .i64 (b.toNat : Int)) : (execOp ρ ⟨dst, .binOp .or t x y t', ty, pos, aft, gd⟩).run P w = .ok (.value (.int .i64 ((a.toNat * 256 + b.toNat : Nat) : Int))) w :=
  R_cast (R_orI hx hy) (congrArg (Value.int .i64) (by rw [sup2, sup1]))
theorem R_convU8 {b : UInt8} (hd : ∀ w, (underlying 3).run Try.prog w = .ok (.int .i64) w) (hx : ρ x = u8 b) : (execOp ρ ⟨dst, .convert 5 3 x, ty, pos, aft, gd⟩).run Try.prog w = .ok (.value (.int .i64 (b.toNat : Int))) w :=
  R_convU hd (.inl rfl) hx
theorem R_shrI {m s : Int} {k' : IntKind} (hx : ρ x = .int .i64 m) (hy : ρ y = .int k' s) (h : 0 ≤ s ∧ s ≤ 9) : (execOp ρ ⟨dst, .binOp .shr t x y t', ty, pos, aft, gd⟩).run P w = .ok (.value (.int .i64 (m / 2 ^ s.toNat))) w :=
  R_cast (R_shr hx hy h.1) (congrArg (Value.int .i64) (by
    have h1 : min s.toNat IntKind.i64.bits = s.toNat := by
      have : IntKind.i64.bits = 64 := rfl
      omega
    rw [h1]))
theorem pow_small {n : Nat} (h : n ≤ 9) : (2 : Int) ^ n ≤ 512 ∧ 0 < (2 : Int) ^ n := by
  have : n = 0 ∨ n = 1 ∨ n = 2 ∨ n = 3 ∨ n = 4 ∨ n = 5 ∨ n = 6 ∨ n = 7 ∨ n = 8 ∨ n = 9 := by omega
  rcases this with rfl | rfl | rfl | rfl | rfl | rfl | rfl | rfl | rfl | rfl <;> decide
theorem R_bit {k' : IntKind} {s : Int} (hx : ρ x = .int .i64 1) (hy : ρ y = .int k' s) (h : 0 ≤ s ∧ s ≤ 9) : (execOp ρ ⟨dst, .binOp .shl t x y t', ty, pos, aft, gd⟩).run P w = .ok (.value (.int .i64 (bitI s))) w :=
  R_cast (R_shl hx hy h.1) (congrArg (Value.int .i64) (by
    have h1 : min s.toNat IntKind.i64.bits = s.toNat := by
      have : IntKind.i64.bits = 64 := rfl
      omega
    rw [h1, Int.one_mul]
    have := pow_small (n := s.toNat) (by omega)
    unfold bitI
    rw [IntKind.wrap_i64]; omega))
/-- keys[i], i a whole number that is not negative -/
theorem R_elI {w1 : World} {t e : TypeId} {v : Value} {m sz : Nat} {cs : List Value} {k : IntKind} {i : Int} (ht : P.underlying t = some (.slice e)) (hs : ∀ w, (sizeOf e).run P w = .ok sz w) (hx : ρ x = v) (hy : ρ y = .int k i) (h : Rs w1 v m sz cs) (h0 : 0 ≤ i) (hi : i.toNat < m) :
    (execOp ρ ⟨dst, .indexAddr t x y, ty, pos, aft, gd⟩).run P w = .ok (.value (elV v (i.toNat * sz))) w :=
  R_elAddr (i := i.toNat) ht hs hx (by rw [hy]; congr 1; omega) h hi
end
/-! a signed vote that is put together -/
def slA : Value → Option Addr
  | .slice A _ _ => A
  | _ => none
def slN : Value → Nat
  | .slice _ n _ => n
  | _ => 0
def slC : Value → Nat
  | .slice _ _ c => c
  | _ => 0
def mkSg (a : Vt) (v : Value) (b : List UInt8) : Sg := ⟨a, slA v, slN v, slC v, b⟩
theorem Bs.sl {w : World} {v : Value} {b : List UInt8} (h : Bs w v b) : Value.slice (slA v) (slN v) (slC v) = v := by
  obtain ⟨_, A, c, rfl, _⟩ := h; rfl
theorem mkSg_l {w : World} {v : Value} {b : List UInt8} (a : Vt) (h : Bs w v b) : (mkSg a v b).l = a.l ++ [v] := by
  unfold Sg.l mkSg; rw [h.sl]
theorem mkSg_ok {lo : Nat} {w : World} {v : Value} {b : List UInt8} (a : Vt) (h : Bf lo w v b) : (mkSg a v b).okf lo w := by
  unfold Sg.okf mkSg; rw [h.bs.sl]; exact h
theorem places53 (w : World) : ((#[⟨ "Vote", 26, 0, false, "", "", 0⟩, ⟨ "Sig", 31, 22, false, "", "", 64⟩] : Array Field).mapM fun (f : Field) => Prod.mk f.offset <$> sizeOf f.type).run Try.prog w = .ok #[(0, 22), (22, 1)] w := by
  simp [Try.sizeOf26, Try.sizeOf31, go_sem]
theorem places55 (w : World) : ((#[⟨ "A", 53, 0, false, "", "", 0⟩, ⟨ "B", 53, 23, false, "", "", 88⟩] : Array Field).mapM fun (f : Field) => Prod.mk f.offset <$> sizeOf f.type).run Try.prog w = .ok #[(0, 23), (23, 23)] w := by
  simp [Try.sizeOf53, go_sem]
theorem fill53 {w : World} {v : Value} {b : List UInt8} (a : Vt) (h : Bs w v b) : Instr.fill ((#[(0, 22), (22, 1)] : Array (Nat × Nat))[·]?) Sg.zero.l.toArray [(0, .agg a.l.toArray), (1, v)] = some (mkSg a v b).l.toArray := by
  have hc : v.cells = [v].toArray := by obtain ⟨_, A, c, rfl, _⟩ := h; rfl
  rw [mkSg_l a h, fill_step (off := 0) (size := 22) (c := a.l) rfl rfl rfl (by decide), fill_step (off := 22) (size := 1) (c := [v]) rfl hc rfl (by simp [Vt.l_len, Sg.l_len]), Instr.fill]
  rfl
theorem fill53z (a : Vt) : Instr.fill ((#[(0, 22), (22, 1)] : Array (Nat × Nat))[·]?) Sg.zero.l.toArray [(0, .agg a.l.toArray)] = some (mkSg a (.slice none 0 0) []).l.toArray := by
  rw [fill_step (off := 0) (size := 22) (c := a.l) rfl rfl rfl (by decide), Instr.fill]
  rfl
theorem fill55 (a b : Sg) : Instr.fill ((#[(0, 23), (23, 23)] : Array (Nat × Nat))[·]?) Ev.zero.l.toArray [(0, .agg a.l.toArray), (1, .agg b.l.toArray)] = some (⟨a, b⟩ : Ev).l.toArray := by
  rw [fill_step (off := 0) (size := 23) (c := a.l) rfl rfl rfl (by decide), fill_step (off := 23) (size := 23) (c := b.l) rfl rfl rfl (by simp [Sg.l_len, Ev.l_len]), Instr.fill]
  rfl
end Go.Proofs.Yteeopgpgbdhmhaa
