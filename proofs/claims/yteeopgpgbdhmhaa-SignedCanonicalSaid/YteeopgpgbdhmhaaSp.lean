/- What the functions on votes compute, and the laws of their order. No condition. -/
import Derived.Test.YteeopgpgbdhmhaaTy
namespace Go.Proofs.Yteeopgpgbdhmhaa
open Go.RowKit
def between (n lo hi : Int) : Bool := decide (lo ≤ n) && decide (n ≤ hi)
def sameKey (a b : Vt) : Bool := (a.kind == b.kind) && decide (a.parent = b.parent) && (a.slot == b.slot) && (a.round == b.round) && (a.signer == b.signer)
def sh8 (v : Int) (b : UInt8) : Int := bits .or .u64 (IntKind.wrap .u64 (v * 2 ^ min (8 : Int).toNat IntKind.u64.bits)) (IntKind.wrap .u64 (b.toNat : Int))
def num (n : Nm) : Int := sh8 (sh8 (sh8 (sh8 (sh8 (sh8 (sh8 (sh8 0 n.b0) n.b1) n.b2) n.b3) n.b4) n.b5) n.b6) n.b7
def hless (a b : Nm) : Bool := !decide (a = b) && decide (num a < num b)
def valid (v : Vt) : Bool :=
  between v.kind 1 7 && between v.signer 0 9 && ((v.choice == 1) != decide (v.value = Nm.zero)) && (bits .andNot .i64 v.support 1023 == 0) &&
  (if v.kind ≤ 2 then between v.slot 0 9 && (v.round == 0) && (v.support == 0) && (v.choice == 1)
  else if v.kind = 3 then between v.slot 0 9 && between v.round 1 12 && between v.choice 0 1 && (v.round != 1 || v.choice != 0 || v.support == 0)
  else if v.kind = 4 then between v.slot 0 9 && between v.round 1 12 && between v.choice 0 2
  else (v.slot == 0) && (v.round == 0) && (v.support == 0) && (v.choice == 1))
def conflict (a b : Vt) : Bool := !decide (a = b) && sameKey a b && valid a && valid b
def lessV (a b : Vt) : Bool :=
  if a.parent ≠ b.parent then hless a.parent b.parent
  else if a.slot ≠ b.slot then decide (a.slot < b.slot)
  else if a.round ≠ b.round then decide (a.round < b.round)
  else if a.kind ≠ b.kind then decide (a.kind < b.kind)
  else if a.signer ≠ b.signer then decide (a.signer < b.signer)
  else if a.choice ≠ b.choice then decide (a.choice < b.choice)
  else if a.value ≠ b.value then hless a.value b.value
  else decide (a.support < b.support)
theorem sh8_eq {v : Nat} (b : UInt8) (hv : v < 2 ^ 56) : sh8 (v : Int) b = ((v * 256 + b.toNat : Nat) : Int) := by
  have hb := b.toNat_lt
  unfold sh8
  rw [IntKind.wrap_u64, IntKind.wrap_u64]
  have h1 : (v : Int) * 2 ^ min (8 : Int).toNat IntKind.u64.bits = ((v * 256 : Nat) : Int) := by
    have : min (8 : Int).toNat IntKind.u64.bits = 8 := by decide
    rw [this]; omega
  rw [h1, show ((v * 256 : Nat) : Int) % 18446744073709551616 = ((v * 256 : Nat) : Int) by omega, show (b.toNat : Int) % 18446744073709551616 = (b.toNat : Int) by omega,
    bits_or_u64_nat _ _ (by omega) (by omega)]
  congr 1
  have := Nat.two_pow_add_eq_or_of_lt (i := 8) (b := b.toNat) (by omega) v
  rw [show 2 ^ 8 * v = v * 256 by omega] at this
  exact this.symm
def numN (n : Nm) : Nat := ((((((((n.b0.toNat * 256 + n.b1.toNat) * 256 + n.b2.toNat) * 256 + n.b3.toNat) * 256 + n.b4.toNat) * 256 + n.b5.toNat) * 256 + n.b6.toNat) * 256 + n.b7.toNat))
theorem num_eq (n : Nm) : num n = (numN n : Int) := by
  have h0 := n.b0.toNat_lt; have h1 := n.b1.toNat_lt; have h2 := n.b2.toNat_lt; have h3 := n.b3.toNat_lt
  have h4 := n.b4.toNat_lt; have h5 := n.b5.toNat_lt; have h6 := n.b6.toNat_lt
  unfold num
  rw [show (0 : Int) = ((0 : Nat) : Int) from rfl, sh8_eq _ (by omega), sh8_eq _ (by omega), sh8_eq _ (by omega), sh8_eq _ (by omega), sh8_eq _ (by omega), sh8_eq _ (by omega), sh8_eq _ (by omega), sh8_eq _ (by omega)]
  unfold numN
  simp
theorem numN_inj {m n : Nm} (h : numN m = numN n) : m = n := by
  rcases m with ⟨a0, a1, a2, a3, a4, a5, a6, a7⟩
  rcases n with ⟨b0, b1, b2, b3, b4, b5, b6, b7⟩
  have ha0 := a0.toNat_lt; have ha1 := a1.toNat_lt; have ha2 := a2.toNat_lt; have ha3 := a3.toNat_lt
  have ha4 := a4.toNat_lt; have ha5 := a5.toNat_lt; have ha6 := a6.toNat_lt; have ha7 := a7.toNat_lt
  have hb0 := b0.toNat_lt; have hb1 := b1.toNat_lt; have hb2 := b2.toNat_lt; have hb3 := b3.toNat_lt
  have hb4 := b4.toNat_lt; have hb5 := b5.toNat_lt; have hb6 := b6.toNat_lt; have hb7 := b7.toNat_lt
  simp only [numN] at h
  simp only [Nm.mk.injEq, ← UInt8.toNat_inj]
  omega
theorem num_ne {m n : Nm} (h : m ≠ n) : num m < num n ∨ num n < num m := by
  rw [num_eq, num_eq]
  have : numN m ≠ numN n := fun e => h (numN_inj e)
  omega
def lex : List Int → List Int → Bool
  | x :: xs, y :: ys => decide (x < y) || ((x == y) && lex xs ys)
  | _, _ => false
theorem lex_irr : ∀ l, lex l l = false
  | [] => rfl
  | x :: xs => by simp [lex, lex_irr xs]
theorem lex_cons {x y : Int} {xs ys : List Int} : lex (x :: xs) (y :: ys) = true ↔ x < y ∨ (x = y ∧ lex xs ys = true) := by simp [lex]
theorem lex_trans : ∀ a b c, lex a b = true → lex b c = true → lex a c = true
  | [], _, _, h, _ => by simp [lex] at h
  | _ :: _, [], _, h, _ => by simp [lex] at h
  | _ :: _, _ :: _, [], _, h => by simp [lex] at h
  | x :: xs, y :: ys, z :: zs, h, k => by
    rw [lex_cons] at h k ⊢
    rcases h with h | ⟨h, h'⟩ <;> rcases k with k | ⟨k, k'⟩
    · exact .inl (by omega)
    · exact .inl (by omega)
    · exact .inl (by omega)
    · exact .inr ⟨by omega, lex_trans _ _ _ h' k'⟩
theorem lex_total : ∀ a b : List Int, a.length = b.length → a ≠ b → lex a b = true ∨ lex b a = true
  | [], [], _, h => absurd rfl h
  | [], _ :: _, h, _ => by simp at h
  | _ :: _, [], h, _ => by simp at h
  | x :: xs, y :: ys, h, k => by
    rw [lex_cons, lex_cons]
    by_cases e : x = y
    · subst e
      rcases lex_total xs ys (by simpa using h) (fun e => k (by rw [e])) with h | h
      · exact .inl (.inr ⟨rfl, h⟩)
      · exact .inr (.inr ⟨rfl, h⟩)
    · have : x < y ∨ y < x := by omega
      rcases this with h | h
      · exact .inl (.inl h)
      · exact .inr (.inl h)
theorem lex_mid {x y z : Int} {xs ys zs : List Int} (h : lex (x :: xs) (y :: ys) = true) (k : lex (y :: ys) (z :: zs) = true) (e : x = z) : x = y ∧ lex xs ys = true ∧ lex ys zs = true := by
  rw [lex_cons] at h k
  rcases h with h | ⟨h, h'⟩ <;> rcases k with k | ⟨k, k'⟩ <;> first | omega | exact ⟨h, h', k'⟩
def Vt.key (v : Vt) : List Int := [num v.parent, v.slot, v.round, v.kind, v.signer, v.choice, num v.value, v.support]
theorem num_inj {m n : Nm} (h : num m = num n) : m = n := by
  rw [num_eq, num_eq] at h
  exact numN_inj (by omega)
theorem Vt.key_inj {a b : Vt} (h : a.key = b.key) : a = b := by
  rcases a with ⟨a1, a2, a3, a4, a5, a6, a7, a8⟩
  rcases b with ⟨b1, b2, b3, b4, b5, b6, b7, b8⟩
  simp only [Vt.key, List.cons.injEq, and_true] at h
  obtain ⟨h1, h2, h3, h4, h5, h6, h7, h8⟩ := h
  rw [num_inj h1, num_inj h7, h2, h3, h4, h5, h6, h8]
theorem hless_lex {a b : Nm} {xs ys : List Int} (h : a ≠ b) : hless a b = lex (num a :: xs) (num b :: ys) := by
  rw [Bool.eq_iff_iff, lex_cons]
  have : num a ≠ num b := fun e => h (num_inj e)
  simp [hless, h, this]
theorem lt_lex {x y : Int} {xs ys : List Int} (h : x ≠ y) : decide (x < y) = lex (x :: xs) (y :: ys) := by
  rw [Bool.eq_iff_iff, lex_cons]
  simp [h]
theorem eq_lex {x y : Int} {xs ys : List Int} (h : x = y) : lex (x :: xs) (y :: ys) = lex xs ys := by
  subst h
  simp [lex]
theorem lessV_lex (a b : Vt) : lessV a b = lex a.key b.key := by
  unfold lessV Vt.key
  by_cases h1 : a.parent = b.parent
  · rw [if_neg (by simp [h1]), eq_lex (by rw [h1])]
    by_cases h2 : a.slot = b.slot
    · rw [if_neg (by simp [h2]), eq_lex h2]
      by_cases h3 : a.round = b.round
      · rw [if_neg (by simp [h3]), eq_lex h3]
        by_cases h4 : a.kind = b.kind
        · rw [if_neg (by simp [h4]), eq_lex h4]
          by_cases h5 : a.signer = b.signer
          · rw [if_neg (by simp [h5]), eq_lex h5]
            by_cases h6 : a.choice = b.choice
            · rw [if_neg (by simp [h6]), eq_lex h6]
              by_cases h7 : a.value = b.value
              · rw [if_neg (by simp [h7]), eq_lex (by rw [h7])]
                simp [lex]
              · rw [if_pos h7]; exact hless_lex h7
            · rw [if_pos h6]; exact lt_lex h6
          · rw [if_pos h5]; exact lt_lex h5
        · rw [if_pos h4]; exact lt_lex h4
      · rw [if_pos h3]; exact lt_lex h3
    · rw [if_pos h2]; exact lt_lex h2
  · rw [if_pos h1]; exact hless_lex h1
theorem less_irr (a : Vt) : lessV a a = false := by rw [lessV_lex]; exact lex_irr _
theorem less_trans {a b c : Vt} (h : lessV a b = true) (k : lessV b c = true) : lessV a c = true := by
  rw [lessV_lex] at *; exact lex_trans _ _ _ h k
theorem less_asym {a b : Vt} (h : lessV a b = true) : lessV b a = false := by
  cases k : lessV b a with
  | false => rfl
  | true => have := less_trans h k; rw [less_irr] at this; exact this.symm
theorem less_total {a b : Vt} (h : a ≠ b) : lessV a b = true ∨ lessV b a = true := by
  rw [lessV_lex, lessV_lex]
  exact lex_total _ _ (by simp [Vt.key]) (fun e => h (Vt.key_inj e))
theorem sameKey_iff (a b : Vt) : sameKey a b = true ↔ a.kind = b.kind ∧ a.parent = b.parent ∧ a.slot = b.slot ∧ a.round = b.round ∧ a.signer = b.signer := by
  simp [sameKey, and_assoc]
theorem less_mid {a b c : Vt} (h : lessV a b = true) (k : lessV b c = true) (s : sameKey a c = true) : sameKey a b = true ∧ sameKey b c = true := by
  rw [lessV_lex] at h k
  rw [sameKey_iff] at s
  rw [sameKey_iff, sameKey_iff]
  unfold Vt.key at h k
  obtain ⟨s1, s2, s3, s4, s5⟩ := s
  obtain ⟨e1, h, k⟩ := lex_mid h k (by rw [s2])
  obtain ⟨e2, h, k⟩ := lex_mid h k s3
  obtain ⟨e3, h, k⟩ := lex_mid h k s4
  obtain ⟨e4, h, k⟩ := lex_mid h k s1
  obtain ⟨e5, h, k⟩ := lex_mid h k s5
  have e1 := num_inj e1
  exact ⟨⟨e4, e1, e2, e3, e5⟩, e4.symm.trans s1, e1.symm.trans s2, e2.symm.trans s3, e3.symm.trans s4, e5.symm.trans s5⟩
theorem sameKey_refl (a : Vt) : sameKey a a = true := by simp [sameKey]
theorem conflict_iff (a b : Vt) : conflict a b = true ↔ a ≠ b ∧ sameKey a b = true ∧ valid a = true ∧ valid b = true := by simp [conflict, and_assoc]
theorem conflict_symm (a b : Vt) : conflict a b = conflict b a := by
  rw [Bool.eq_iff_iff, conflict_iff, conflict_iff, sameKey_iff, sameKey_iff]
  constructor <;> rintro ⟨h1, ⟨h2, h3, h4, h5, h6⟩, h7, h8⟩ <;> exact ⟨h1.symm, ⟨h2.symm, h3.symm, h4.symm, h5.symm, h6.symm⟩, h8, h7⟩
theorem conflict_irr (a : Vt) : conflict a a = false := by simp [conflict]
theorem conflict_law (a b : Vt) : (conflict a b != conflict b a || conflict a a || conflict a b && (a.signer != b.signer || decide (a = b))) = false := by
  rw [conflict_symm b a, conflict_irr]
  cases h : conflict a b with
  | false => rfl
  | true =>
    rw [conflict_iff, sameKey_iff] at h
    simp [h.1, h.2.1.2.2.2.2]
theorem order_law (a b : Vt) : (lessV a b && lessV b a || !decide (a = b) && !lessV a b && !lessV b a) = false := by
  by_cases e : a = b
  · subst e; simp [less_irr]
  · rcases less_total e with h | h
    · simp [h, less_asym h]
    · simp [h, less_asym h]
theorem trans_law (a b c : Vt) : ((!lessV a b || !lessV b c || lessV a c) && true) = true := by
  cases h : lessV a b with
  | false => rfl
  | true =>
    cases k : lessV b c with
    | false => rfl
    | true => simp [less_trans h k]
end Go.Proofs.Yteeopgpgbdhmhaa
