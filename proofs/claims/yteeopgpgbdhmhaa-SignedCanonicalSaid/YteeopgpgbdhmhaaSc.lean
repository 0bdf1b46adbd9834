/- Strings of bytes; the encoding of a valid vote tells the vote. No condition. -/
import Derived.Test.YteeopgpgbdhmhaaWD
import Derived.Test.YteeopgpgbdhmhaaOp
import Derived.Laws.BytesString
import Derived.Laws.BytesArg
import Derived.Lib.Bytes
import Derived.Lib.LazyBuf
namespace Go.Proofs.Yteeopgpgbdhmhaa
open Go.RowKit
section
variable {ρ : Operand → Value} {w : World} {dst : Option Tmp} {ty : TypeId} {pos : String} {aft : Array Edge} {gd : Option (Nat × Bool)}
def strV (b : List UInt8) : Value := .string ⟨b.toArray⟩
theorem R_str {x : Operand} {v : Value} {b : List UInt8} (hx : ρ x = v) (h : Bs w v b) : (execOp ρ ⟨dst, .convert 31 9 x, ty, pos, aft, gd⟩).run Try.prog w = .ok (.value (strV b)) w := by
  obtain ⟨hl, A, c, rfl, h1, h2, h3, h4⟩ := h
  have e := run_convert_bytes_string (P := Try.prog) w 31 9 5 A b.length c Try.underlying31 Try.underlying5 Try.underlying9
  have k : (Conv.bytesToString (.slice A b.length c)).run Try.prog w = .ok (strV b) w := by
    cases A with
    | none =>
      cases b with
      | nil => simp [Conv.bytesToString, Sem.run_pure, strV]; rfl
      | cons c t =>
        obtain ⟨ad, h, _⟩ := h4 0 (u8 c) rfl
        cases h
    | some a =>
      have hc : (loadCells a b.length).run Try.prog w = .ok ((b.map fun c => (c.toNat : Int)).map (Value.int .u8)).toArray w := by
        have := run_loadCells_list (P := Try.prog) w a (bl b) (by
          intro j v hv
          obtain ⟨ad, hA, hc⟩ := h4 j v hv
          cases hA; exact hc)
        rw [bl_len] at this
        rw [this]; simp only [bl, List.map_map]; rfl
      rw [run_bytesToString w a b.length c _ hc, foldl_push_bytes]
      simp [strV, Function.comp_def]
  simp [go_sem, hx, e, k]
theorem R_eqlStr {x y : Operand} {a b : List UInt8} {t t' : TypeId} (hx : ρ x = strV a) (hy : ρ y = strV b) : (execOp ρ ⟨dst, .binOp .eql t x y t', ty, pos, aft, gd⟩).run Try.prog w = .ok (.value (.bool (decide (a = b)))) w := by
  simp [go_sem, hx, hy, strV]; by_cases h : a = b <;> simp [h]
theorem R_neqStr {x y : Operand} {a b : List UInt8} {t t' : TypeId} (hx : ρ x = strV a) (hy : ρ y = strV b) : (execOp ρ ⟨dst, .binOp .neq t x y t', ty, pos, aft, gd⟩).run Try.prog w = .ok (.value (.bool (!decide (a = b)))) w := by
  simp [go_sem, hx, hy, strV]; by_cases h : a = b <;> simp [h]
end
theorem andNot_1023 {s : Int} (hs : inI s) (h : bits .andNot .i64 s 1023 = 0) : 0 ≤ s ∧ s ≤ 1023 := by
  have h' : IntKind.i64.wrap ((BitVec.ofInt 64 s &&& ~~~BitVec.ofInt 64 1023).toNat : Int) = 0 := h
  have hlt : (BitVec.ofInt 64 s &&& ~~~BitVec.ofInt 64 1023).toNat < 2 ^ 64 := BitVec.isLt _
  rw [IntKind.wrap_i64] at h'
  have h0 : (BitVec.ofInt 64 s &&& ~~~BitVec.ofInt 64 1023).toNat = 0 := by omega
  rw [BitVec.toNat_and] at h0
  have hm : (~~~BitVec.ofInt 64 1023).toNat / 2 ^ 10 = 2 ^ 54 - 1 := by decide
  have h1 := congrArg (· / 2 ^ 10) h0
  simp only [Nat.and_div_two_pow, hm, Nat.and_two_pow_sub_one_eq_mod] at h1
  rw [BitVec.toNat_ofInt] at h1
  unfold inI at hs
  omega
structure Vt.rng (a : Vt) : Prop where
  kind : 1 ≤ a.kind ∧ a.kind ≤ 7
  slot : 0 ≤ a.slot ∧ a.slot ≤ 9
  round : 0 ≤ a.round ∧ a.round ≤ 12
  choice : 0 ≤ a.choice ∧ a.choice ≤ 2
  signer : 0 ≤ a.signer ∧ a.signer ≤ 9
  support : 0 ≤ a.support ∧ a.support ≤ 1023
theorem valid_rng {a : Vt} (h : a.wf) (hv : valid a = true) : a.rng := by
  unfold valid between at hv
  simp only [Bool.and_eq_true, decide_eq_true_eq, beq_iff_eq] at hv
  obtain ⟨⟨⟨⟨hk, hs⟩, _⟩, hsu⟩, hr⟩ := hv
  have := andNot_1023 h.support hsu
  refine ⟨hk, ?_, ?_, ?_, hs, this⟩ <;> ((repeat' split at hr) <;> simp at hr <;> omega)
theorem by8_inj {m n : Int} (hm : 0 ≤ m ∧ m ≤ 255) (hn : 0 ≤ n ∧ n ≤ 255) (h : by8 m = by8 n) : m = n := by
  have := congrArg (fun b : UInt8 => (b.toNat : Int)) h
  simp only [by8_toNat] at this
  omega
theorem enc_inj {a b : Vt} (ha : a.rng) (hb : b.rng) (h : encRaw a = encRaw b) : a = b := by
  obtain ⟨a1, a2, a3, a4, a5, a6⟩ := ha
  obtain ⟨b1, b2, b3, b4, b5, b6⟩ := hb
  have h' : [by8 a.kind, by8 a.slot, by8 a.round, by8 a.choice, by8 a.signer, by8 (a.support / 2 ^ 8), by8 a.support] ++ (a.parent.b ++ a.value.b) = [by8 b.kind, by8 b.slot, by8 b.round, by8 b.choice, by8 b.signer, by8 (b.support / 2 ^ 8), by8 b.support] ++ (b.parent.b ++ b.value.b) := by simpa [encRaw] using h
  obtain ⟨h1, h2⟩ := List.append_inj h' rfl
  obtain ⟨h3, h4⟩ := List.append_inj h2 rfl
  simp only [List.cons.injEq, and_true] at h1
  obtain ⟨c1, c2, c3, c4, c5, c6, c7⟩ := h1
  have d1 := by8_inj (by omega) (by omega) c1; have d2 := by8_inj (by omega) (by omega) c2; have d3 := by8_inj (by omega) (by omega) c3
  have d4 := by8_inj (by omega) (by omega) c4; have d5 := by8_inj (by omega) (by omega) c5; have d6 := by8_inj (by omega) (by omega) c6
  have d7 := congrArg (fun b : UInt8 => (b.toNat : Int)) c7
  simp only [by8_toNat] at d7
  have d8 := Nm.b_inj.1 h3; have d9 := Nm.b_inj.1 h4
  have d10 : a.support = b.support := by omega
  cases a; cases b; simp_all
theorem encB_inj {a b : Vt} (ha : a.wf) (hb : b.wf) (va : valid a = true) (vb : valid b = true) (h : encB a = encB b) : a = b := by
  unfold encB at h; rw [if_pos va, if_pos vb] at h
  exact enc_inj (valid_rng ha va) (valid_rng hb vb) h
theorem names_law {a b : Vt} (ha : a.wf) (hb : b.wf) (va : valid a = true) (vb : valid b = true) : decide (a = b) = decide (encB a = encB b) := by
  by_cases h : a = b
  · subst h; simp
  · have : encB a ≠ encB b := fun e => h (encB_inj ha hb va vb e)
    simp [h, this]
/-! the decoding of a vote -/
theorem fill26 (a b c d e f : Int) : Instr.fill ((#[(0, 1), (1, 1), (2, 1), (3, 1), (4, 1), (5, 1), (6, 8), (14, 8)] : Array (Nat × Nat))[·]?) #[.int .i64 0, .int .i64 0, .int .i64 0, .int .i64 0, .int .i64 0, .int .i64 0, .int .u8 0, .int .u8 0, .int .u8 0, .int .u8 0, .int .u8 0, .int .u8 0, .int .u8 0, .int .u8 0, .int .u8 0, .int .u8 0, .int .u8 0, .int .u8 0, .int .u8 0, .int .u8 0, .int .u8 0, .int .u8 0] [(0, i64 a), (1, i64 b), (2, i64 c), (3, i64 d), (4, i64 e), (5, i64 f)] = some (⟨a, b, c, d, e, f, Nm.zero, Nm.zero⟩ : Vt).l.toArray := by
  simp [Instr.fill, i64, Value.cells, Vt.l, Nm.zero, u8]

def shU (x : Int) (b : UInt8) : Int := bits .or .u64 (IntKind.wrap .u64 (x * 2 ^ 8)) (b.toNat : Int)
def nmAt (b : List UInt8) (o : Nat) : Nm := ⟨b.getD o 0, b.getD (o + 1) 0, b.getD (o + 2) 0, b.getD (o + 3) 0, b.getD (o + 4) 0, b.getD (o + 5) 0, b.getD (o + 6) 0, b.getD (o + 7) 0⟩
def rawV (b : List UInt8) : Vt := ⟨(b.getD 0 0).toNat, (b.getD 1 0).toNat, (b.getD 2 0).toNat, (b.getD 3 0).toNat, (b.getD 4 0).toNat, IntKind.wrap .i64 (shU (shU (0) (b.getD 5 0)) (b.getD 6 0)), nmAt b 7, nmAt b 15⟩
def dec (b : List UInt8) : Vt × Int :=
  if b.length < 23 then (Vt.zero, 2) else if 23 < b.length then (Vt.zero, 3) else if valid (rawV b) then (rawV b, 0) else (Vt.zero, 11)
theorem shU_two (a b : UInt8) : shU (shU 0 a) b = ((a.toNat * 256 + b.toNat : Nat) : Int) := by
  have ha := a.toNat_lt; have hb := b.toNat_lt
  have e : ∀ (v : Nat) (c : UInt8), v < 2 ^ 56 → shU (v : Int) c = ((v * 256 + c.toNat : Nat) : Int) := by
    intro v c hv
    rw [← sh8_eq c hv]
    have := c.toNat_lt
    unfold shU sh8
    rw [show IntKind.wrap .u64 (c.toNat : Int) = (c.toNat : Int) by rw [IntKind.wrap_u64]; omega]
    rfl
  have h0 := e 0 a (by omega)
  rw [show ((0 : Nat) : Int) = 0 from rfl] at h0
  rw [h0, e _ b (by omega)]
  simp
theorem sup1 (a b : UInt8) : IntKind.wrap .i64 (shU (shU 0 a) b) = ((a.toNat * 256 + b.toNat : Nat) : Int) := by
  have ha := a.toNat_lt; have hb := b.toNat_lt
  rw [shU_two, IntKind.wrap_i64]; omega
theorem ofInt_i64 (a : Nat) (h : a < 2 ^ 63) : (BitVec.ofInt 64 (a : Int)).toNat = a := by
  rw [BitVec.toNat_ofInt]; omega
theorem sup2 (a b : UInt8) : bits .or .i64 (IntKind.wrap .i64 ((a.toNat : Int) * 2 ^ 8)) (b.toNat : Int) = IntKind.wrap .i64 (shU (shU 0 a) b) := by
  have ha := a.toNat_lt; have hb := b.toNat_lt
  rw [sup1, show IntKind.wrap .i64 ((a.toNat : Int) * 2 ^ 8) = ((a.toNat * 256 : Nat) : Int) by rw [IntKind.wrap_i64]; omega]
  show IntKind.i64.wrap ((BitVec.ofInt 64 ((a.toNat * 256 : Nat) : Int) ||| BitVec.ofInt 64 (b.toNat : Int)).toNat : Int) = _
  rw [BitVec.toNat_or, ofInt_i64 _ (by omega), ofInt_i64 _ (by omega)]
  have := Nat.two_pow_add_eq_or_of_lt (i := 8) (b := b.toNat) (by omega) a.toNat
  rw [show 2 ^ 8 * a.toNat = a.toNat * 256 by omega] at this
  rw [← this, IntKind.wrap_i64]; omega
section
variable {ρ : Operand → Value} {w : World} {dst : Option Tmp} {ty : TypeId} {pos : String} {aft : Array Edge} {gd : Option (Nat × Bool)}
theorem R_xorB {x y : Operand} {a b : UInt8} {t t' : TypeId} (hx : ρ x = u8 a) (hy : ρ y = u8 b) : (execOp ρ ⟨dst, .binOp .xor t x y t', ty, pos, aft, gd⟩).run Try.prog w = .ok (.value (u8 (a ^^^ b))) w := by
  refine R_cast (R_xorI hx hy) ?_
  have ha := a.toNat_lt; have hb := b.toNat_lt
  rw [u8_xor_nat _ _ (by omega) (by omega), u8, UInt8.toNat_xor]
theorem R_remW {x y : Operand} {M : Int} {L : Nat} {t t' : TypeId} (hx : ρ x = .int .u64 (IntKind.wrap .u64 M)) (hy : ρ y = .int .u64 (IntKind.wrap .u64 ((L : Nat) : Int))) (h0 : 0 < L) (h1 : L ≤ 140737488355328) :
    (execOp ρ ⟨dst, .binOp .rem t x y t', ty, pos, aft, gd⟩).run Try.prog w = .ok (.value (.int .u64 (((IntKind.wrap .u64 M).toNat % L : Nat) : Int))) w := by
  have e : IntKind.wrap .u64 ((L : Nat) : Int) = (L : Int) := by rw [IntKind.wrap_u64]; omega
  rw [e] at hy
  have hM : 0 ≤ IntKind.wrap .u64 M ∧ IntKind.wrap .u64 M < 18446744073709551616 := by rw [IntKind.wrap_u64]; omega
  obtain ⟨m, hm⟩ := Int.eq_ofNat_of_zero_le hM.1
  rw [hm] at hx hM ⊢
  have hL : ¬ L = 0 := by omega
  have h3 : ((m : Nat) : Int).tmod (L : Int) = ((m % L : Nat) : Int) := by simp [Int.tmod]
  simp [go_sem, hx, hy, Op.intDiv, hL, h3]
theorem R_convN {s d : TypeId} {x : Operand} {k : IntKind} {e : Nat} (hs : ∀ w, (underlying s).run Try.prog w = .ok (.int k) w) (hd : ∀ w, (underlying d).run Try.prog w = .ok (.int .i64) w) (hx : ρ x = .int k ((e : Nat) : Int)) (he : e ≤ 140737488355328) :
    (execOp ρ ⟨dst, .convert s d x, ty, pos, aft, gd⟩).run Try.prog w = .ok (.value (i64 ((e : Nat) : Int))) w := by
  refine R_cast (R_conv hs hd hx) (congrArg (Value.int .i64) ?_)
  rw [IntKind.wrap_i64]; omega
end
section
variable {ops : Array Oper} {Q : Exit → Act → World → Prop} {K : Act → World → Prop} {n : Nat} {f : Nat → Value} {w : World} {d : Option Tmp} {ty : TypeId} {pos : String} {aft : Array Edge}
theorem D_storeElB {lo j : Nat} {x y : Operand} {v : Value} {xs : List UInt8} {c : UInt8} (hx : ov n f x = elV v (j * 1)) (hy : ov n f y = u8 c) (ho : OwnB w lo v xs) (hj : j < xs.length)
    (h : ∀ w', OwnB w' lo v (xs.set j c) → w.grownBy w' v.ownBlock → K (E n (upo f d undef)) w') :
    wpO Try.prog ops Q ⟨d, .store 5 x y, ty, pos, aft, none⟩ K (E n f) w := by
  obtain ⟨hl, ⟨rfl, h0⟩ | ⟨g, cap, cur, rfl, hg, hb, h1, h2, h3, h4⟩⟩ := ho
  · omega
  · have hB : Blk w g cur.toList 5 := by simpa [Blk] using hb
    have hx' : ov n f x = .pointer (some ⟨g, j, none⟩) := by rw [hx]; simp [elV, Addr.add]; omega
    refine D_store1 Try.sizeOf5 hB hx' hy rfl (Nat.ble_eq_true_of_le (by simp [h3]; omega)) fun w' k b => h w' ?_ ⟨k.os, k.tape, k.output, Nat.le_of_eq k.size.symm, fun j _ hj => k.block j (fun e => hj (by subst e; rfl))⟩
    have hb' : w'.heap[g]? = _ := b
    refine ⟨by simp [bl], .inr ⟨g, cap, _, by simp, hg, hb', by simpa using h1, h2, ?_, ?_⟩⟩
    · simp [h3]
    · have h4' : cur.toList.take xs.length = bl xs := by simpa using h4
      simp only [List.length_set, Nat.mul_one]
      rw [List.take_set, h4', bl, bl, List.map_set]
end
theorem enc_len {a : Vt} (h : valid a = true) : (encB a).length = 23 := by
  unfold encB; rw [if_pos h]; simp [encRaw, Nm.b_len]
theorem by8_nat (b : UInt8) : by8 (b.toNat : Int) = b := by
  have := b.toNat_lt
  rw [← UInt8.toNat_inj]
  have h := by8_toNat (b.toNat : Int)
  omega
theorem by8_eq {m : Int} {b : UInt8} (h : m % 256 = (b.toNat : Int)) : by8 m = b := by
  rw [← UInt8.toNat_inj]
  have := by8_toNat m
  omega
theorem enc_raw {b : List UInt8} (h : b.length = 23) : encRaw (rawV b) = b := by
  rcases b with _ | ⟨b0, _ | ⟨b1, _ | ⟨b2, _ | ⟨b3, _ | ⟨b4, _ | ⟨b5, _ | ⟨b6, _ | ⟨b7, _ | ⟨b8, _ | ⟨b9, _ | ⟨b10, _ | ⟨b11, _ | ⟨b12, _ | ⟨b13, _ | ⟨b14, _ | ⟨b15, _ | ⟨b16, _ | ⟨b17, _ | ⟨b18, _ | ⟨b19, _ | ⟨b20, _ | ⟨b21, _ | ⟨b22, _ | ⟨z, t⟩⟩⟩⟩⟩⟩⟩⟩⟩⟩⟩⟩⟩⟩⟩⟩⟩⟩⟩⟩⟩⟩⟩⟩
  all_goals first | (simp at h; done) | skip
  · have h5 := b5.toNat_lt; have h6 := b6.toNat_lt
    have e1 : by8 ((rawV [b0, b1, b2, b3, b4, b5, b6, b7, b8, b9, b10, b11, b12, b13, b14, b15, b16, b17, b18, b19, b20, b21, b22]).support / 2 ^ 8) = b5 := by
      refine by8_eq ?_
      show IntKind.wrap .i64 (shU (shU 0 b5) b6) / 2 ^ 8 % 256 = _
      rw [sup1]; omega
    have e2 : by8 (rawV [b0, b1, b2, b3, b4, b5, b6, b7, b8, b9, b10, b11, b12, b13, b14, b15, b16, b17, b18, b19, b20, b21, b22]).support = b6 := by
      refine by8_eq ?_
      show IntKind.wrap .i64 (shU (shU 0 b5) b6) % 256 = _
      rw [sup1]; omega
    unfold encRaw
    rw [e1, e2]
    simp [rawV, by8_nat, nmAt, Nm.b]
theorem raw_enc {a : Vt} (h : a.rng) : rawV (encRaw a) = a := by
  obtain ⟨a1, a2, a3, a4, a5, a6⟩ := h
  have e0 := by8_toNat a.kind; have e1 := by8_toNat a.slot; have e2 := by8_toNat a.round; have e3 := by8_toNat a.choice; have e4 := by8_toNat a.signer
  have e5 := by8_toNat (a.support / 2 ^ 8); have e6 := by8_toNat a.support
  have hs : IntKind.wrap .i64 (shU (shU (0) (by8 (a.support / 2 ^ 8))) (by8 a.support)) = a.support := by rw [sup1]; omega
  have : rawV (encRaw a) = ⟨(by8 a.kind).toNat, (by8 a.slot).toNat, (by8 a.round).toNat, (by8 a.choice).toNat, (by8 a.signer).toNat, IntKind.wrap .i64 (shU (shU (0) (by8 (a.support / 2 ^ 8))) (by8 a.support)), a.parent, a.value⟩ := rfl
  rw [this, hs, e0, e1, e2, e3, e4]
  cases a; simp only at *; simp only [Vt.mk.injEq, and_true]
  omega
theorem dec_enc {a : Vt} (h : a.wf) (hv : valid a = true) : dec (encB a) = (a, 0) := by
  have hl := enc_len hv
  unfold dec
  rw [if_neg (by omega), if_neg (by omega)]
  have : rawV (encB a) = a := by unfold encB; rw [if_pos hv]; exact raw_enc (valid_rng h hv)
  rw [this, if_pos hv]
theorem enc_dec {b : List UInt8} (h : (dec b).2 = 0) : valid (dec b).1 = true ∧ encB (dec b).1 = b := by
  unfold dec at *
  split at h
  · cases h
  · split at h
    · cases h
    · split at h
      · rename_i h1 h2 h3
        rw [if_neg h1, if_neg h2, if_pos h3]
        refine ⟨h3, ?_⟩
        unfold encB
        show (if valid (rawV b) = true then encRaw (rawV b) else []) = b
        rw [if_pos h3]
        exact enc_raw (by omega)
      · cases h
end Go.Proofs.Yteeopgpgbdhmhaa
