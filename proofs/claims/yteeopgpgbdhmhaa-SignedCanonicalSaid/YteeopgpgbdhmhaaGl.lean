/- A signed vote that came in; what is encoded is decoded again. No condition. -/
import Derived.Test.YteeopgpgbdhmhaaGk
import Derived.Test.YteeopgpgbdhmhaaOn
namespace Go.Proofs.Yteeopgpgbdhmhaa
open Go.ChangeShapes Go.WideShapes Go.ChangeAt Go.RowKit
set_option linter.unusedVariables false
set_option maxRecDepth 20000
set_option linter.constructorNameAsVariable false
variable {H : Type} {enc : TypeId × Value → H} {w : World} {base : Nat} {sp : Nat → Bool} {held : Bool}
def SgIn (w : World) (v : Value) (x : Sg) : Prop := v = x.v ∧ x.okf w.heap.size w ∧ x.vote.wf
theorem open53 {v : Value} {d : DataW H} {p : List MemPlace} {b0 : Nat} {r : Reach} (hv : Value.okWide Try.prog w r b0 53 v) (h : DataW.Trod enc Try.prog w base sp held 53 v d p) : ∃ x : Sg, SgIn w v x := by
  obtain ⟨cs, rfl, _⟩ := okWide_struct Try.underlying53 hv
  obtain ⟨fuel, hf⟩ := h
  obtain ⟨a, ha, ho, hw⟩ := rd53 hf
  refine ⟨a, ?_, ho.okf (Ext.refl w) (Nat.le_refl _), hw⟩
  have : cs = a.l.toArray := by rw [← ha]; simp [Value.cells]
  rw [this]; rfl
theorem decS_enc {x : Sg} (hw : x.vote.wf) (h : okS x = true) : decS (encS x) = (x.p, 0) := by
  have h' := h
  unfold okS at h'
  simp only [Bool.and_eq_true, decide_eq_true_eq] at h'
  have hl := encS_len h
  have e : encS x = encB x.vote ++ x.sig := by unfold encS; rw [if_pos h]
  have h23 := enc_len h'.1
  have ht : (encS x).take 23 = encB x.vote := by rw [e, ← h23, List.take_left]
  have hd : (encS x).drop 23 = x.sig := by rw [e, ← h23, List.drop_left]
  have hde := dec_enc hw h'.1
  rw [decS_ok hl (by rw [ht, hde]), ht, hd, hde]; rfl
theorem sameS_refl (p : Pv) : sameS p p = true := by simp [sameS]
end Go.Proofs.Yteeopgpgbdhmhaa
