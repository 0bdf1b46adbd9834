/- Sets of validators as numbers; what an accepted proof tells. No condition. -/
import Derived.Test.YteeopgpgbdhmhaaSm
namespace Go.Proofs.Yteeopgpgbdhmhaa
open Go.RowKit
set_option linter.unusedVariables false
theorem or_i64 (a b : Nat) (ha : a < 2 ^ 10) (hb : b < 2 ^ 10) : bits .or .i64 (a : Int) (b : Int) = ((a ||| b : Nat) : Int) := by
  show IntKind.i64.wrap ((BitVec.ofInt 64 (a : Int) ||| BitVec.ofInt 64 (b : Int)).toNat : Int) = _
  rw [BitVec.toNat_or, ofInt_i64 _ (by omega), ofInt_i64 _ (by omega)]
  have := Nat.or_lt_two_pow ha hb
  rw [IntKind.wrap_i64]; omega
theorem and1_i64 (a : Nat) (ha : a < 2 ^ 62) : bits .and .i64 (a : Int) 1 = ((a % 2 : Nat) : Int) := by
  show IntKind.i64.wrap ((BitVec.ofInt 64 (a : Int) &&& BitVec.ofInt 64 ((1 : Nat) : Int)).toNat : Int) = _
  rw [BitVec.toNat_and, ofInt_i64 _ (by omega), ofInt_i64 _ (by omega), show a &&& 1 = a % 2 from Nat.and_two_pow_sub_one_eq_mod a 1]
  rw [IntKind.wrap_i64]; omega
theorem bitI_nat (k : Nat) : bitI (k : Int) = ((2 ^ k : Nat) : Int) := by unfold bitI; simp
theorem pow_lt (k : Nat) (h : k ≤ 9) : 2 ^ k < 2 ^ 10 := Nat.pow_lt_pow_right (by decide) (by omega)
theorem or_bit {g s : Int} (hg : 0 ≤ g ∧ g < 1024) (hs : 0 ≤ s ∧ s ≤ 9) : 0 < bits .or .i64 g (bitI s) ∧ bits .or .i64 g (bitI s) < 1024 := by
  obtain ⟨m, rfl⟩ := Int.eq_ofNat_of_zero_le hg.1
  obtain ⟨k, rfl⟩ := Int.eq_ofNat_of_zero_le hs.1
  rw [bitI_nat, or_i64 m (2 ^ k) (by omega) (pow_lt k (by omega))]
  have h1 := Nat.or_lt_two_pow (show m < 2 ^ 10 by omega) (pow_lt k (by omega))
  have h2 : 2 ^ k ≤ m ||| 2 ^ k := Nat.right_le_or
  have h3 := Nat.two_pow_pos k
  omega
def hasB (m i : Int) : Bool := decide (i ≥ 0) && decide (i < 10) && (bits .and .i64 (m / 2 ^ i.toNat) 1 == 1)
theorem hasB_nat (m k : Nat) (hm : m < 2 ^ 10) : hasB (m : Int) (k : Int) = (decide (k < 10) && m.testBit k) := by
  unfold hasB
  have e : ((m : Int) / 2 ^ ((k : Int)).toNat) = ((m / 2 ^ k : Nat) : Int) := by simp
  rw [e, and1_i64 _ (Nat.lt_of_le_of_lt (Nat.div_le_self _ _) (by omega)), Nat.testBit_eq_decide_div_mod_eq]
  have h1 : decide ((k : Int) ≥ 0) = true := decide_eq_true (by omega)
  rw [h1, Bool.true_and]
  congr 1
  · by_cases h : k < 10
    · rw [decide_eq_true h, decide_eq_true (by omega)]
    · rw [decide_eq_false h, decide_eq_false (by omega)]
  · generalize m / 2 ^ k % 2 = z
    by_cases h : z = 1
    · subst h; rfl
    · rw [decide_eq_false h]; simp; omega
theorem hasB_neg {m i : Int} (h : ¬ 0 ≤ i) : hasB m i = false := by unfold hasB; rw [decide_eq_false (by omega)]; rfl
theorem hasB_or {g s i : Int} (hg : 0 ≤ g ∧ g < 1024) (hs : 0 ≤ s ∧ s ≤ 9) (hne : s ≠ i) : hasB (bits .or .i64 g (bitI s)) i = hasB g i := by
  by_cases h0 : 0 ≤ i
  · obtain ⟨m, rfl⟩ := Int.eq_ofNat_of_zero_le hg.1
    obtain ⟨k, rfl⟩ := Int.eq_ofNat_of_zero_le hs.1
    obtain ⟨j, rfl⟩ := Int.eq_ofNat_of_zero_le h0
    rw [bitI_nat, or_i64 m (2 ^ k) (by omega) (pow_lt k (by omega)), hasB_nat _ _ (Nat.or_lt_two_pow (by omega) (pow_lt k (by omega))), hasB_nat _ _ (by omega), Nat.testBit_or, Nat.testBit_two_pow, decide_eq_false (show ¬ k = j by omega), Bool.or_false]
  · rw [hasB_neg h0, hasB_neg h0]
theorem hasB_zero (i : Int) : hasB 0 i = false := by
  by_cases h0 : 0 ≤ i
  · obtain ⟨j, rfl⟩ := Int.eq_ofNat_of_zero_le h0
    have := hasB_nat 0 j (by decide)
    simpa using this
  · exact hasB_neg h0
/-! accepted proofs -/
theorem chkS_err {keys : List Nm} : ∀ n r p g, (chkS keys n r p g).2 ≠ 0 → (chkS keys n r p g).1 = 0 := by
  intro n
  induction n with
  | zero => intro r p g h; exact absurd rfl h
  | succ n ih =>
    intro r p g h
    by_cases h1 : (decE (r.take 786)).2 = 0
    · by_cases h2 : flt keys (decE (r.take 786)).1 p = 0
      · rw [chkS_next h1 h2] at h ⊢; exact ih _ _ _ h
      · rw [chkS_flt h1 h2]
    · rw [chkS_bad h1]
theorem chk_err {keys : List Nm} {b : List UInt8} (h : (chk keys b).2 ≠ 0) : (chk keys b).1 = 0 := by
  unfold chk at *
  split at h
  · rename_i h1; rw [if_pos h1]
  · rename_i h1
    rw [if_neg h1]
    split at h
    · rename_i h2; rw [if_pos h2]
    · rename_i h2
      rw [if_neg h2]
      split at h
      · rename_i h3; rw [if_pos h3]
      · rename_i h3
        rw [if_neg h3]
        split at h
        · rename_i h4; rw [if_pos h4]
        · rename_i h4; rw [if_neg h4]; exact chkS_err _ _ _ _ h
theorem chk_ok {keys : List Nm} {b : List UInt8} (h : (chk keys b).2 = 0) : b.length = 1 + 786 * (b.getD 0 0).toNat ∧ 1 ≤ (b.getD 0 0).toNat ∧ (b.getD 0 0).toNat ≤ 10 ∧ chkS keys (b.getD 0 0).toNat (b.drop 1) (-1) 0 = chk keys b := by
  by_cases h0 : b.length = 0
  · rw [chk_0 h0] at h; cases h
  · by_cases h1 : (b.getD 0 0).toNat = 0 ∨ 10 < (b.getD 0 0).toNat
    · rw [chk_4 h0 h1] at h; cases h
    · by_cases h2 : b.length < 1 + 786 * (b.getD 0 0).toNat
      · rw [chk_2 h0 h1 h2] at h; cases h
      · by_cases h3 : 1 + 786 * (b.getD 0 0).toNat < b.length
        · rw [chk_3 h0 h1 h3] at h; cases h
        · exact ⟨by omega, by omega, by omega, (chk_S h0 h1 (by omega)).symm⟩
theorem chkS_step {keys : List Nm} {n : Nat} {r : List UInt8} {p g : Int} {Z : Int × Int} (h : chkS keys (n + 1) r p g = Z) (hz : Z.2 = 0) :
    (decE (r.take 786)).2 = 0 ∧ flt keys (decE (r.take 786)).1 p = 0 ∧ chkS keys n (r.drop 786) (decE (r.take 786)).1.1.1.signer (bits .or .i64 g (bitI (decE (r.take 786)).1.1.1.signer)) = Z := by
  by_cases h1 : (decE (r.take 786)).2 = 0
  · by_cases h2 : flt keys (decE (r.take 786)).1 p = 0
    · rw [chkS_next h1 h2] at h; exact ⟨h1, h2, h⟩
    · rw [chkS_flt h1 h2] at h; subst h; exact absurd hz h2
  · rw [chkS_bad h1] at h; subst h; exact absurd hz h1
theorem validE_of {keys : List Nm} {e : Pv × Pv} {p : Int} (h : flt keys e p = 0) : validE keys e = true := by
  obtain ⟨h1, h2, _, h3, h4⟩ := flt_parts h
  unfold validE; rw [h1, h2, h3, h4]; rfl
/-- two votes in conflict, both of a list without conflicts -/
theorem own_clash {own : List Vt} {a b : Vt} (hno : ∀ i k : Nat, k < i → ∀ x y, own[i]? = some x → own[k]? = some y → conflict x y = false) (ha : a ∈ own) (hb : b ∈ own) (hc : conflict a b = true) : False := by
  obtain ⟨i, hi⟩ := List.getElem?_of_mem ha
  obtain ⟨k, hk⟩ := List.getElem?_of_mem hb
  have hne := (conflict_parts hc).2.2.2
  rcases Nat.lt_trichotomy i k with h | h | h
  · have := hno k i h b a hk hi
    rw [conflict_symm] at this
    rw [hc] at this; cases this
  · subst h
    rw [hi] at hk; cases hk; exact hne rfl
  · have := hno i k h a b hi hk
    rw [hc] at this; cases this
end Go.Proofs.Yteeopgpgbdhmhaa
