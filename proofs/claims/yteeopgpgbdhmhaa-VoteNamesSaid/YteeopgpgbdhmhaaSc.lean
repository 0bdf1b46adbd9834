/- Strings of bytes; the encoding of a valid vote tells the vote. No condition. -/
import Derived.Test.YteeopgpgbdhmhaaWD
import Derived.Test.YteeopgpgbdhmhaaOp
import Derived.Laws.BytesString
import Derived.Laws.BytesArg
import Derived.Lib.Bytes
import Derived.Lib.LazyBuf
namespace Go.Proofs.Yteeopgpgbdhmhaa
open Go.RowKit
section
variable {ρ : Operand → Value} {w : World} {dst : Option Tmp} {ty : TypeId} {pos : String} {aft : Array Edge} {gd : Option (Nat × Bool)}
def strV (b : List UInt8) : Value := .string ⟨b.toArray⟩
theorem R_str {x : Operand} {v : Value} {b : List UInt8} (hx : ρ x = v) (h : Bs w v b) : (execOp ρ ⟨dst, .convert 31 9 x, ty, pos, aft, gd⟩).run Try.prog w = .ok (.value (strV b)) w := by
  obtain ⟨hl, A, c, rfl, h1, h2, h3, h4⟩ := h
  have e := run_convert_bytes_string (P := Try.prog) w 31 9 5 A b.length c Try.underlying31 Try.underlying5 Try.underlying9
  have k : (Conv.bytesToString (.slice A b.length c)).run Try.prog w = .ok (strV b) w := by
    cases A with
    | none =>
      cases b with
      | nil => simp [Conv.bytesToString, Sem.run_pure, strV]; rfl
      | cons c t =>
        obtain ⟨ad, h, _⟩ := h4 0 (u8 c) rfl
        cases h
    | some a =>
      have hc : (loadCells a b.length).run Try.prog w = .ok ((b.map fun c => (c.toNat : Int)).map (Value.int .u8)).toArray w := by
        have := run_loadCells_list (P := Try.prog) w a (bl b) (by
          intro j v hv
          obtain ⟨ad, hA, hc⟩ := h4 j v hv
          cases hA; exact hc)
        rw [bl_len] at this
        rw [this]; simp only [bl, List.map_map]; rfl
      rw [run_bytesToString w a b.length c _ hc, foldl_push_bytes]
      simp [strV, Function.comp_def]
  simp [go_sem, hx, e, k]
theorem R_eqlStr {x y : Operand} {a b : List UInt8} {t t' : TypeId} (hx : ρ x = strV a) (hy : ρ y = strV b) : (execOp ρ ⟨dst, .binOp .eql t x y t', ty, pos, aft, gd⟩).run Try.prog w = .ok (.value (.bool (decide (a = b)))) w := by
  simp [go_sem, hx, hy, strV]; by_cases h : a = b <;> simp [h]
theorem R_neqStr {x y : Operand} {a b : List UInt8} {t t' : TypeId} (hx : ρ x = strV a) (hy : ρ y = strV b) : (execOp ρ ⟨dst, .binOp .neq t x y t', ty, pos, aft, gd⟩).run Try.prog w = .ok (.value (.bool (!decide (a = b)))) w := by
  simp [go_sem, hx, hy, strV]; by_cases h : a = b <;> simp [h]
end
theorem andNot_1023 {s : Int} (hs : inI s) (h : bits .andNot .i64 s 1023 = 0) : 0 ≤ s ∧ s ≤ 1023 := by
  have h' : IntKind.i64.wrap ((BitVec.ofInt 64 s &&& ~~~BitVec.ofInt 64 1023).toNat : Int) = 0 := h
  have hlt : (BitVec.ofInt 64 s &&& ~~~BitVec.ofInt 64 1023).toNat < 2 ^ 64 := BitVec.isLt _
  rw [IntKind.wrap_i64] at h'
  have h0 : (BitVec.ofInt 64 s &&& ~~~BitVec.ofInt 64 1023).toNat = 0 := by omega
  rw [BitVec.toNat_and] at h0
  have hm : (~~~BitVec.ofInt 64 1023).toNat / 2 ^ 10 = 2 ^ 54 - 1 := by decide
  have h1 := congrArg (· / 2 ^ 10) h0
  simp only [Nat.and_div_two_pow, hm, Nat.and_two_pow_sub_one_eq_mod] at h1
  rw [BitVec.toNat_ofInt] at h1
  unfold inI at hs
  omega
structure Vt.rng (a : Vt) : Prop where
  kind : 1 ≤ a.kind ∧ a.kind ≤ 7
  slot : 0 ≤ a.slot ∧ a.slot ≤ 9
  round : 0 ≤ a.round ∧ a.round ≤ 12
  choice : 0 ≤ a.choice ∧ a.choice ≤ 2
  signer : 0 ≤ a.signer ∧ a.signer ≤ 9
  support : 0 ≤ a.support ∧ a.support ≤ 1023
theorem valid_rng {a : Vt} (h : a.wf) (hv : valid a = true) : a.rng := by
  unfold valid between at hv
  simp only [Bool.and_eq_true, decide_eq_true_eq, beq_iff_eq] at hv
  obtain ⟨⟨⟨⟨hk, hs⟩, _⟩, hsu⟩, hr⟩ := hv
  have := andNot_1023 h.support hsu
  refine ⟨hk, ?_, ?_, ?_, hs, this⟩ <;> ((repeat' split at hr) <;> simp at hr <;> omega)
theorem by8_inj {m n : Int} (hm : 0 ≤ m ∧ m ≤ 255) (hn : 0 ≤ n ∧ n ≤ 255) (h : by8 m = by8 n) : m = n := by
  have := congrArg (fun b : UInt8 => (b.toNat : Int)) h
  simp only [by8_toNat] at this
  omega
theorem enc_inj {a b : Vt} (ha : a.rng) (hb : b.rng) (h : encRaw a = encRaw b) : a = b := by
  obtain ⟨a1, a2, a3, a4, a5, a6⟩ := ha
  obtain ⟨b1, b2, b3, b4, b5, b6⟩ := hb
  have h' : [by8 a.kind, by8 a.slot, by8 a.round, by8 a.choice, by8 a.signer, by8 (a.support / 2 ^ 8), by8 a.support] ++ (a.parent.b ++ a.value.b) = [by8 b.kind, by8 b.slot, by8 b.round, by8 b.choice, by8 b.signer, by8 (b.support / 2 ^ 8), by8 b.support] ++ (b.parent.b ++ b.value.b) := by simpa [encRaw] using h
  obtain ⟨h1, h2⟩ := List.append_inj h' rfl
  obtain ⟨h3, h4⟩ := List.append_inj h2 rfl
  simp only [List.cons.injEq, and_true] at h1
  obtain ⟨c1, c2, c3, c4, c5, c6, c7⟩ := h1
  have d1 := by8_inj (by omega) (by omega) c1; have d2 := by8_inj (by omega) (by omega) c2; have d3 := by8_inj (by omega) (by omega) c3
  have d4 := by8_inj (by omega) (by omega) c4; have d5 := by8_inj (by omega) (by omega) c5; have d6 := by8_inj (by omega) (by omega) c6
  have d7 := congrArg (fun b : UInt8 => (b.toNat : Int)) c7
  simp only [by8_toNat] at d7
  have d8 := Nm.b_inj.1 h3; have d9 := Nm.b_inj.1 h4
  have d10 : a.support = b.support := by omega
  cases a; cases b; simp_all
theorem encB_inj {a b : Vt} (ha : a.wf) (hb : b.wf) (va : valid a = true) (vb : valid b = true) (h : encB a = encB b) : a = b := by
  unfold encB at h; rw [if_pos va, if_pos vb] at h
  exact enc_inj (valid_rng ha va) (valid_rng hb vb) h
theorem names_law {a b : Vt} (ha : a.wf) (hb : b.wf) (va : valid a = true) (vb : valid b = true) : decide (a = b) = decide (encB a = encB b) := by
  by_cases h : a = b
  · subst h; simp
  · have : encB a ≠ encB b := fun e => h (encB_inj ha hb va vb e)
    simp [h, this]
end Go.Proofs.Yteeopgpgbdhmhaa
