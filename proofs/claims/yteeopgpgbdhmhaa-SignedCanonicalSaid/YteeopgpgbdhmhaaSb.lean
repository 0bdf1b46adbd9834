/- What the functions on bytes compute. No condition. -/
import Derived.Test.YteeopgpgbdhmhaaWA
namespace Go.Proofs.Yteeopgpgbdhmhaa
open Go.RowKit
theorem Nm.b_len (n : Nm) : n.b.length = 8 := rfl
def be2 (x : Int) : List UInt8 := [by8 (x / 2 ^ 8)] ++ [by8 (x / 2 ^ 0)]
theorem be2_len (x : Int) : (be2 x).length = 2 := rfl
def encRaw (a : Vt) : List UInt8 := [by8 a.kind, by8 a.slot, by8 a.round, by8 a.choice, by8 a.signer, by8 (a.support / 2 ^ 8), by8 a.support] ++ a.parent.b ++ a.value.b
def encB (a : Vt) : List UInt8 := if valid a then encRaw a else []
theorem by8_congr {m n : Int} (h : m % 256 = n % 256) : by8 m = by8 n := by simp only [by8, h]
theorem be2_wrap (x : Int) : be2 (IntKind.wrap .u64 x) = [by8 (x / 2 ^ 8), by8 x] := by
  unfold be2
  rw [IntKind.wrap_u64, by8_congr (m := x % 18446744073709551616 / 2 ^ 8) (n := x / 2 ^ 8) (by omega), by8_congr (m := x % 18446744073709551616 / 2 ^ 0) (n := x) (by omega)]
  rfl
/-! the hash -/
def rot (x : Int) (j : Nat) : Int := bits .or .u64 (IntKind.wrap .u64 (x * 2 ^ j)) (x / 2 ^ (64 - j))
def mxX (x y : Int) : Int := IntKind.wrap .u64 (rot (IntKind.wrap .u64 (x + y)) 32 * 11400714819323198485)
def mxY (x y : Int) : Int := bits .xor .u64 (rot y 13) (IntKind.wrap .u64 (x + y))
def mx : Nat → Int → Int → Int × Int
  | 0, x, y => (x, y)
  | k + 1, x, y => mx k (mxX x y) (mxY x y)

def nmOf (x : Int) : Nm := ⟨by8 (x / 2 ^ 56), by8 (x / 2 ^ 48), by8 (x / 2 ^ 40), by8 (x / 2 ^ 32), by8 (x / 2 ^ 24), by8 (x / 2 ^ 16), by8 (x / 2 ^ 8), by8 x⟩
theorem fill24 (a b c d e f g h : UInt8) : Instr.fill (fun i => some (i * 1, 1)) #[.int .u8 0, .int .u8 0, .int .u8 0, .int .u8 0, .int .u8 0, .int .u8 0, .int .u8 0, .int .u8 0] [(0, u8 a), (1, u8 b), (2, u8 c), (3, u8 d), (4, u8 e), (5, u8 f), (6, u8 g), (7, u8 h)] = some (⟨a, b, c, d, e, f, g, h⟩ : Nm).l.toArray := by
  simp [Instr.fill, u8, Value.cells, Nm.l]
def padN (b : List UInt8) : Nm := ⟨b.getD 0 0, b.getD 1 0, b.getD 2 0, b.getD 3 0, b.getD 4 0, b.getD 5 0, b.getD 6 0, b.getD 7 0⟩
def word (b : List UInt8) : Int := num (padN b)
theorem bl_get {b : List UInt8} {i : Nat} (h : i < b.length) : (bl b)[i * 1]? = some (u8 (b.getD i 0)) := by
  simp [bl, List.getD, List.getElem?_eq_getElem h]
theorem pad_copy (b : List UInt8) (h : b.length < 8) : Nm.zero.l.take 0 ++ (bl b).take (Nat.min b.length 8) ++ Nm.zero.l.drop (0 + Nat.min b.length 8) = (padN b).l := by
  rcases b with _ | ⟨b0, _ | ⟨b1, _ | ⟨b2, _ | ⟨b3, _ | ⟨b4, _ | ⟨b5, _ | ⟨b6, _ | ⟨b7, t⟩⟩⟩⟩⟩⟩⟩⟩ <;> first | rfl | (simp at h; omega)
def pw (b : List UInt8) : Nat → Nat
  | 0 => 0
  | i + 1 => pw b i + (b.getD i 0).toNat * 2 ^ (56 - 8 * i)
theorem pw8 (b : List UInt8) : word b = (pw b 8 : Int) := by
  unfold word; rw [num_eq]; simp only [numN, padN, pw]; simp only [Nat.reduceMul, Nat.reduceSub, Nat.reducePow]; omega
theorem pw_end (b : List UInt8) (n : Nat) : ∀ k, b.length ≤ n → pw b (n + k) = pw b n
  | 0, _ => rfl
  | k + 1, h => by
    rw [← Nat.add_assoc, pw, pw_end b n k h]
    simp [List.getD, List.getElem?_eq_none (show b.length ≤ n + k by omega)]
theorem or_add (x : Nat) (c : UInt8) (s : Nat) (hs : s ≤ 56) (h : x % 2 ^ (s + 8) = 0) (hx : x < 18446744073709551616) : bits .or .u64 (x : Int) (IntKind.wrap .u64 ((c.toNat : Int) * 2 ^ s)) = ((x + c.toNat * 2 ^ s : Nat) : Int) := by
  have hc := c.toNat_lt
  have h1 : c.toNat * 2 ^ s < 2 ^ (s + 8) := by rw [Nat.pow_add, Nat.mul_comm]; exact Nat.mul_lt_mul_of_pos_left hc (Nat.two_pow_pos s)
  have h2 : 2 ^ (s + 8) ≤ 2 ^ 64 := Nat.pow_le_pow_right (by omega) (by omega)
  have h3 : (c.toNat : Int) * 2 ^ s = ((c.toNat * 2 ^ s : Nat) : Int) := by simp
  rw [h3, IntKind.wrap_u64, show ((c.toNat * 2 ^ s : Nat) : Int) % 18446744073709551616 = ((c.toNat * 2 ^ s : Nat) : Int) by omega, bits_or_u64_nat _ _ hx (by omega)]
  congr 1
  have := Nat.two_pow_add_eq_or_of_lt h1 (x / 2 ^ (s + 8))
  have h4 := Nat.div_add_mod x (2 ^ (s + 8))
  rw [h, Nat.add_zero] at h4
  rw [h4] at this
  exact this.symm
theorem or_pw (b : List UInt8) (i : Nat) (hi : i < 8) : bits .or .u64 (pw b i : Int) (IntKind.wrap .u64 (((b.getD i 0).toNat : Int) * 2 ^ (56 - 8 * i))) = (pw b (i + 1) : Int) := by
  have a0 := (b.getD 0 0).toNat_lt; have a1 := (b.getD 1 0).toNat_lt; have a2 := (b.getD 2 0).toNat_lt; have a3 := (b.getD 3 0).toNat_lt
  have a4 := (b.getD 4 0).toNat_lt; have a5 := (b.getD 5 0).toNat_lt; have a6 := (b.getD 6 0).toNat_lt
  refine (or_add _ _ _ (by omega) ?_ ?_).trans rfl
  all_goals
    have : i = 0 ∨ i = 1 ∨ i = 2 ∨ i = 3 ∨ i = 4 ∨ i = 5 ∨ i = 6 ∨ i = 7 := by omega
    rcases this with rfl | rfl | rfl | rfl | rfl | rfl | rfl | rfl <;> simp only [pw, Nat.reduceMul, Nat.reduceSub, Nat.reducePow, Nat.reduceAdd] <;> omega
theorem word_long (b : List UInt8) : bits .or .u64 (bits .or .u64 (bits .or .u64 (bits .or .u64 (bits .or .u64 (bits .or .u64 (bits .or .u64 (IntKind.wrap .u64 (((b.getD 0 0).toNat : Int) * 2 ^ 56)) (IntKind.wrap .u64 (((b.getD 1 0).toNat : Int) * 2 ^ 48))) (IntKind.wrap .u64 (((b.getD 2 0).toNat : Int) * 2 ^ 40))) (IntKind.wrap .u64 (((b.getD 3 0).toNat : Int) * 2 ^ 32))) (IntKind.wrap .u64 (((b.getD 4 0).toNat : Int) * 2 ^ 24))) (IntKind.wrap .u64 (((b.getD 5 0).toNat : Int) * 2 ^ 16))) (IntKind.wrap .u64 (((b.getD 6 0).toNat : Int) * 2 ^ 8))) ((b.getD 7 0).toNat : Int) = word b := by
  have e1 : IntKind.wrap .u64 (((b.getD 0 0).toNat : Int) * 2 ^ 56) = (pw b 1 : Int) := by
    have a0 := (b.getD 0 0).toNat_lt
    rw [IntKind.wrap_u64]; simp only [pw, Nat.reduceMul, Nat.reduceSub, Nat.reducePow]; omega
  have e8 : ((b.getD 7 0).toNat : Int) = IntKind.wrap .u64 (((b.getD 7 0).toNat : Int) * 2 ^ (56 - 8 * 7)) := by
    have a7 := (b.getD 7 0).toNat_lt
    rw [IntKind.wrap_u64]; simp only [Nat.reduceMul, Nat.reduceSub]; omega
  rw [pw8, e1, or_pw b 1 (by omega), or_pw b 2 (by omega), or_pw b 3 (by omega), or_pw b 4 (by omega), or_pw b 5 (by omega), or_pw b 6 (by omega), e8, or_pw b 7 (by omega)]
theorem word_short (b : List UInt8) (h : b.length < 8) : (pw b b.length : Int) = word b := by
  rw [pw8, ← pw_end b b.length (8 - b.length) (Nat.le_refl _)]
  congr 2; omega
def sm (b : List UInt8) : Nat → Nat → Int × Int → Int × Int
  | 0, _, p => p
  | n + 1, i, p => sm b n (i + 8) (mx 2 (bits .xor .u64 p.1 (word ((b.drop i).take (b.length - i)))) p.2)
def hashE (b : List UInt8) (p : Int × Int) : Nm :=
  let q := mx 4 p.1 (bits .xor .u64 p.2 (IntKind.wrap .u64 ((b.length : Nat) : Int)))
  nmOf (bits .xor .u64 q.1 q.2)
def hashB (b : List UInt8) : Nm := hashE b (sm b ((b.length + 7) / 8) 0 (2611923443488327891, 1376283091369227076))
theorem sm_step (b : List UInt8) {i : Nat} {X Y : Int} {Z : Int × Int} (h : sm b ((b.length + 7 - i) / 8) i (X, Y) = Z) (hi : i < b.length) :
    sm b ((b.length + 7 - (i + 8)) / 8) (i + 8) (mx 2 (bits .xor .u64 X (word ((b.drop i).take (b.length - i)))) Y) = Z := by
  rw [show (b.length + 7 - i) / 8 = (b.length + 7 - (i + 8)) / 8 + 1 by omega] at h; exact h
theorem sm_end (b : List UInt8) {i : Nat} {X Y : Int} {Z : Int × Int} (h : sm b ((b.length + 7 - i) / 8) i (X, Y) = Z) (hi : ¬ i < b.length) : Z = (X, Y) := by
  rw [show (b.length + 7 - i) / 8 = 0 by omega] at h; exact h.symm
def nameV (a : Vt) : Nm := if valid a then hashB (64 :: encB a) else Nm.zero
theorem encB_le (a : Vt) : (encB a).length ≤ 23 := by
  unfold encB; split
  · simp [encRaw, Nm.b_len]
  · simp
theorem places123 (w : World) : ((#[⟨ "x", 36, 0, false, "", "forkledger/hash", 0⟩, ⟨ "y", 36, 1, false, "", "forkledger/hash", 8⟩] : Array Field).mapM fun (f : Field) => Prod.mk f.offset <$> sizeOf f.type).run Try.prog w = .ok #[(0, 1), (1, 1)] w := by
  simp [Try.sizeOf36, go_sem]
section
variable {P : Program} {ρ : Operand → Value} {w : World} {dst : Option Tmp} {ty : TypeId} {pos : String} {aft : Array Edge} {gd : Option (Nat × Bool)}
theorem R_shlN {t t' : TypeId} {x y : Operand} {k : IntKind} {m : Int} {e : Nat} (hx : ρ x = .int k m) (hy : ρ y = .int .u64 (IntKind.wrap .u64 ((e : Nat) : Int))) (he : e ≤ 63) (hk : 64 ≤ k.bits) : (execOp ρ ⟨dst, .binOp .shl t x y t', ty, pos, aft, gd⟩).run P w = .ok (.value (.int k (k.wrap (m * 2 ^ e)))) w := by
  have h1 : IntKind.wrap .u64 ((e : Nat) : Int) = (e : Int) := by rw [IntKind.wrap_u64]; omega
  rw [h1] at hy
  have := R_shl (P := P) (w := w) (dst := dst) (ty := ty) (pos := pos) (aft := aft) (gd := gd) (t := t) (t' := t') hx hy (by omega)
  rwa [show min (e : Int).toNat k.bits = e by omega] at this
end
end Go.Proofs.Yteeopgpgbdhmhaa
