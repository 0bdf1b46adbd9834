/- A row of signed votes that the library's sort reads and turns; comparing bytes. No condition. -/
import Derived.Test.YteeopgpgbdhmhaaPl
import Derived.Test.YteeopgpgbdhmhaaSq
import Derived.Lib.ReflectliteSwap
import Derived.Laws.Externs
namespace Go.Proofs.Yteeopgpgbdhmhaa
open Go.RowKit Go.Lib
set_option linter.unusedVariables false
set_option linter.unusedSimpArgs false
section
variable {P : Program} {ρ : Operand → Value} {w w' : World} {dst : Option Tmp} {ty : TypeId} {pos : String} {aft : Array Edge} {gd : Option (Nat × Bool)}
theorem R_callX {F : FuncId} {xs : Array Operand} {ts : Array TypeId} {vs : List Value} {e : Array Value → Sem Value} {v : Value} (hF : ∀ args w, (callFunc F args).run P w = ((e args).run P w).andThen fun v w' => .ok (.value v) w') (hv : xs.toList.map ρ = vs) (hf : ρ (.func F) = .func (.func F) #[] #[])
    (he : (e vs.toArray).run P w = .ok v w') : (execOp ρ ⟨dst, .call ⟨.value (.func F), xs, ts⟩, ty, pos, aft, gd⟩).run P w = .ok (.value v) w' := by
  have : xs.map ρ = vs.toArray := by rw [← hv]; exact Array.toList_inj.1 (by simp)
  simp [go_sem, hf, this, Deferred.ofValue, hF, he, Result.andThen]
theorem run_loadBytes : ∀ (b acc : List UInt8) (a : Addr), (∀ j u, (bl b)[j]? = some u → w.cell? (a.add j) = some u) → (Extern.Bytes.loadBytes a b.length ⟨acc.toArray⟩).run P w = .ok ⟨(acc ++ b).toArray⟩ w
  | [], acc, a, _ => by simp [Extern.Bytes.loadBytes]
  | c :: b, acc, a, h => by
    have h0 : w.cell? a = some (u8 c) := by simpa [Addr.add] using h 0 (u8 c) rfl
    have ih := run_loadBytes b (acc ++ [c]) (a.add 1) (fun j u hu => by rw [add_add', Nat.add_comm]; exact h (j + 1) u hu)
    have hl : (load a).run P w = .ok (u8 c) w := by simp [h0]
    have hc : UInt8.ofNat ((c.toNat : Int).toNat) = c := by simp
    have hp : (ByteArray.mk acc.toArray).push c = ⟨(acc ++ [c]).toArray⟩ := by
      show ByteArray.mk (acc.toArray.push c) = _
      simp
    simp only [Extern.Bytes.loadBytes, List.length_cons, Sem.run_bind, hl, Result.andThen_ok, u8]
    have hc2 : ((c.toNat : Int).toNat).toUInt8 = c := hc
    rw [hc2, hp, ih]
    simp
theorem run_bytesOf {v : Value} {b : List UInt8} (h : Bs w v b) : (Extern.Bytes.bytesOf v).run P w = .ok ⟨b.toArray⟩ w := by
  obtain ⟨hl, A, c, rfl, h1, h2, h3, h4⟩ := h
  cases A with
  | none =>
    have := h3 rfl
    have : b = [] := List.eq_nil_of_length_eq_zero (by omega)
    subst this
    simp [Extern.Bytes.bytesOf]; rfl
  | some a =>
    have := run_loadBytes (P := P) (w := w) b [] a (fun j u hu => by obtain ⟨ad, e, hc⟩ := h4 j u hu; cases e; exact hc)
    exact this
theorem run_compare {u v : Value} {a b : List UInt8} (ha : Bs w u a) (hb : Bs w v b) : (Extern.BytealgCompare.compare #[u, v]).run P w = .ok (i64 (compareBytes a b)) w := by
  change Sem.run P (do pure (goInt (Extern.BytealgCompare.cmp (← Extern.Bytes.bytesOf u) (← Extern.Bytes.bytesOf v)))) w = _
  simp only [Sem.run_bind, run_bytesOf ha, run_bytesOf hb, Result.andThen_ok, Sem.run_pure, cmp_eq]
  rfl
end
theorem ext132 (args : Array Value) (w : World) : (callFunc 132 args).run Try.prog w = ((Extern.BytealgCompare.compare args).run Try.prog w).andThen fun v w' => .ok (.value v) w' :=
  run_callFunc_extern Try.func132 (by kernel_rfl) (by kernel_rfl) (by kernel_rfl) (by kernel_rfl) args w
theorem ext154 (args : Array Value) (w : World) : (callFunc 154 args).run Try.prog w = ((Extern.ReflectliteSwapper.swap false args).run Try.prog w).andThen fun v w' => .ok (.value v) w' :=
  run_callFunc_extern Try.func154 (by kernel_rfl) (by kernel_rfl) (by kernel_rfl) (by kernel_rfl) args w
theorem ext124 (args : Array Value) (w : World) : (callFunc 124 args).run Try.prog w = (((fun args => Extern.ReflectliteValue.unpack (args.getD 0 (.tuple #[]))) args).run Try.prog w).andThen fun v w' => .ok (.value v) w' :=
  run_callFunc_extern Try.func124 (by kernel_rfl) (by kernel_rfl) (by kernel_rfl) (e := fun args => Extern.ReflectliteValue.unpack (args.getD 0 (.tuple #[]))) (by kernel_rfl) args w
theorem ext125 (args : Array Value) (w : World) : (callFunc 125 args).run Try.prog w = ((Extern.ReflectliteSwapper.swapper "internal/reflectlite" (Extern.ReflectliteValue.valueError "Swapper") args).run Try.prog w).andThen fun v w' => .ok (.value v) w' :=
  run_callFunc_extern Try.func125 (by kernel_rfl) (by kernel_rfl) (by kernel_rfl) (e := Extern.ReflectliteSwapper.swapper "internal/reflectlite" (Extern.ReflectliteValue.valueError "Swapper")) (by kernel_rfl) args w
theorem ext127 (args : Array Value) (w : World) : (callFunc 127 args).run Try.prog w = ((Extern.ReflectliteValue.method (Extern.ReflectliteValue.valueError "reflectlite.Value.Len" 0) Extern.ReflectliteValue.len args).run Try.prog w).andThen fun v w' => .ok (.value v) w' :=
  run_callFunc_extern Try.func127 (by kernel_rfl) (by kernel_rfl) (by kernel_rfl) (e := Extern.ReflectliteValue.method (Extern.ReflectliteValue.valueError "reflectlite.Value.Len" 0) Extern.ReflectliteValue.len) (by kernel_rfl) args w
theorem tinfo53 : ∃ ie, Try.prog.info? 53 = some ie ∧ ie.size = 23 ∧ ie.hasPointers = true ∧ ie.bytes = 88 := by
  have h : (Try.prog.info? 53).map (fun i => (i.size, i.hasPointers, i.bytes)) = some (23, true, 88) := by kernel_rfl
  cases hi : Try.prog.info? 53 with
  | none => rw [hi] at h; cases h
  | some i => rw [hi] at h; simp only [Option.map_some, Option.some.injEq, Prod.mk.injEq] at h; exact ⟨i, rfl, h.1, h.2.1, h.2.2⟩
theorem tinfo46 : ∃ i, Try.prog.info? 46 = some i ∧ i.desc = .slice 53 := by
  have h : (Try.prog.info? 46).map (·.desc) = some (.slice 53) := by kernel_rfl
  cases hi : Try.prog.info? 46 with
  | none => rw [hi] at h; cases h
  | some i => rw [hi] at h; simp only [Option.map_some, Option.some.injEq] at h; exact ⟨i, rfl, h⟩
def namedStruct (P : Program) (t : TypeId) : Bool := match P.info? t with
  | some i => (match i.desc with
    | .named _ u => (match P.info? u with
      | some j => (match j.desc with
        | .struct _ => true
        | _ => false)
      | none => false)
    | _ => false)
  | none => false
theorem ns53 : namedStruct Try.prog 53 = true := by kernel_rfl
theorem kind_ns {P : Program} {t : TypeId} (h : namedStruct P t = true) (w : World) : (Extern.Rtype.kind t).run P w = .ok 25 w := by
  unfold namedStruct at h
  cases hi : P.info? t with
  | none => rw [hi] at h; cases h
  | some i =>
    rw [hi] at h
    cases hd : i.desc with
    | named nm u =>
      simp only [hd] at h
      cases hu : P.info? u with
      | none => rw [hu] at h; cases h
      | some j =>
        rw [hu] at h
        cases hj : j.desc with
        | struct fs => simp [Extern.Rtype.kind, Extern.Rtype.under, rl_info t i hi, rl_info u j hu, hd, hj, Result.andThen]
        | _ => simp [hj] at h
    | _ => simp [hd] at h
theorem kind53 : ∀ w, (Extern.Rtype.kind 53).run Try.prog w = .ok 25 w := kind_ns ns53
end Go.Proofs.Yteeopgpgbdhmhaa
