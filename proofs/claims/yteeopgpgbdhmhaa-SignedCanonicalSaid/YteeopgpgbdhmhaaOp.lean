/- How the arguments of the laws read: a name, a vote. No condition. -/
import Derived.Test.YteeopgpgbdhmhaaTy
import Derived.ProofKit
import Derived.OpenShut
namespace Go.Proofs.Yteeopgpgbdhmhaa
open Go.ChangeShapes Go.WideShapes Go.ChangeAt Go.RowKit
set_option maxRecDepth 20000
set_option linter.constructorNameAsVariable false
theorem own : ownKnob Try.prog.godebug = none := by kernel_rfl
theorem laidOut : laidOutB Try.prog = true := by kernel_rfl
theorem cells3 : Try.prog.cellsOf 3 = 1 := by kernel_rfl
theorem cells5 : Try.prog.cellsOf 5 = 1 := by kernel_rfl
theorem cells22 : Try.prog.cellsOf 22 = 1 := by kernel_rfl
theorem cells24 : Try.prog.cellsOf 24 = 8 := by kernel_rfl
theorem cells26 : Try.prog.cellsOf 26 = 22 := by kernel_rfl
def inI (n : Int) : Prop := -9223372036854775808 ≤ n ∧ n ≤ 9223372036854775807
structure Vt.wf (v : Vt) : Prop where
  kind : inI v.kind
  slot : inI v.slot
  round : inI v.round
  choice : inI v.choice
  signer : inI v.signer
  support : inI v.support
section
variable {H : Type} {enc : TypeId × Value → H} {w : World} {base : Nat} {sp : Nat → Bool} {held : Bool} {fuel : Nat} {cs : List Value} {x : DataW H × List MemPlace}
theorem wf_u8 {n : Int} (h : (Lit.int .u8 n).wf = true) : ∃ b : UInt8, Value.int .u8 n = u8 b := by
  have hb := bounds_u8 h
  refine ⟨UInt8.ofNat n.toNat, ?_⟩
  simp only [u8, UInt8.toNat_ofNat']
  congr 1
  omega
theorem wf_i64 {n : Int} (h : (Lit.int .i64 n).wf = true) : inI n := by
  have hb := bounds_i64 h
  unfold inI; omega
theorem rd24 (h : DataW.trod enc Try.prog w base sp held fuel 24 cs = some x) : ∃ n : Nm, cs = n.l := by
  obtain ⟨xs, m, rfl, _, hlen, hxs, hi⟩ := DataW.trod_array Try.underlying24 h
  rw [cells24] at hlen
  have g : ∀ i, i < 8 → ∃ b : UInt8, cs[i]? = some (u8 b) := by
    intro i h8
    have h1 := hi i h8
    rw [cells5, Nat.mul_one] at h1
    have h2 : xs[i]? = some xs[i] := List.getElem?_eq_getElem (by omega)
    rw [h2] at h1
    obtain ⟨k, hk, _, hw⟩ := DataW.trod_int Try.underlying5 h1
    obtain ⟨b, hb⟩ := wf_u8 hw
    refine ⟨b, ?_⟩
    have : cs[i]? = ((cs.drop i).take 1)[0]? := by simp
    rw [this, hk, hb]; rfl
  obtain ⟨b0, h0⟩ := g 0 (by omega)
  obtain ⟨b1, h1⟩ := g 1 (by omega)
  obtain ⟨b2, h2⟩ := g 2 (by omega)
  obtain ⟨b3, h3⟩ := g 3 (by omega)
  obtain ⟨b4, h4⟩ := g 4 (by omega)
  obtain ⟨b5, h5⟩ := g 5 (by omega)
  obtain ⟨b6, h6⟩ := g 6 (by omega)
  obtain ⟨b7, h7⟩ := g 7 (by omega)
  refine ⟨⟨b0, b1, b2, b3, b4, b5, b6, b7⟩, ?_⟩
  match cs, hlen with
  | [c0, c1, c2, c3, c4, c5, c6, c7], _ =>
    simp at h0 h1 h2 h3 h4 h5 h6 h7
    subst h0 h1 h2 h3 h4 h5 h6 h7
    rfl
theorem rdI {t : TypeId} (ht : Try.prog.underlying t = some (.int .i64)) (h : DataW.trod enc Try.prog w base sp held fuel t cs = some x) : ∃ n : Int, cs = [i64 n] ∧ inI n := by
  obtain ⟨k, hk, _, hw⟩ := DataW.trod_int ht h
  exact ⟨k, hk, wf_i64 hw⟩
theorem rd26 (h : DataW.trod enc Try.prog w base sp held fuel 26 cs = some x) : ∃ v : Vt, cs = v.l ∧ v.wf := by
  obtain ⟨xs, m, rfl, _, hlen, hxs, hi⟩ := DataW.trod_struct Try.underlying26 h
  rw [cells26] at hlen
  have hx : ∀ i : Nat, i < 8 → xs[i]? = some (xs[i]?.getD x) := fun i h8 => by
    have : i < xs.length := by rw [hxs]; exact h8
    simp [this]
  have g0 : DataW.trod enc Try.prog w base sp held m 3 ((cs.drop 0).take (Try.prog.cellsOf 3)) = xs[0]? := hi 0 _ rfl
  have g1 : DataW.trod enc Try.prog w base sp held m 3 ((cs.drop 1).take (Try.prog.cellsOf 3)) = xs[1]? := hi 1 _ rfl
  have g2 : DataW.trod enc Try.prog w base sp held m 3 ((cs.drop 2).take (Try.prog.cellsOf 3)) = xs[2]? := hi 2 _ rfl
  have g3 : DataW.trod enc Try.prog w base sp held m 3 ((cs.drop 3).take (Try.prog.cellsOf 3)) = xs[3]? := hi 3 _ rfl
  have g4 : DataW.trod enc Try.prog w base sp held m 3 ((cs.drop 4).take (Try.prog.cellsOf 3)) = xs[4]? := hi 4 _ rfl
  have g5 : DataW.trod enc Try.prog w base sp held m 22 ((cs.drop 5).take (Try.prog.cellsOf 22)) = xs[5]? := hi 5 _ rfl
  have g6 : DataW.trod enc Try.prog w base sp held m 24 ((cs.drop 6).take (Try.prog.cellsOf 24)) = xs[6]? := hi 6 _ rfl
  have g7 : DataW.trod enc Try.prog w base sp held m 24 ((cs.drop 14).take (Try.prog.cellsOf 24)) = xs[7]? := hi 7 _ rfl
  rw [hx _ (by omega)] at g0 g1 g2 g3 g4 g5 g6 g7
  rw [cells3] at g0 g1 g2 g3 g4
  rw [cells22] at g5
  rw [cells24] at g6 g7
  obtain ⟨n0, e0, w0⟩ := rdI Try.underlying3 g0
  obtain ⟨n1, e1, w1⟩ := rdI Try.underlying3 g1
  obtain ⟨n2, e2, w2⟩ := rdI Try.underlying3 g2
  obtain ⟨n3, e3, w3⟩ := rdI Try.underlying3 g3
  obtain ⟨n4, e4, w4⟩ := rdI Try.underlying3 g4
  obtain ⟨n5, e5, w5⟩ := rdI Try.underlying22 g5
  obtain ⟨p, e6⟩ := rd24 g6
  obtain ⟨q, e7⟩ := rd24 g7
  refine ⟨⟨n0, n1, n2, n3, n4, n5, p, q⟩, ?_, ⟨w0, w1, w2, w3, w4, w5⟩⟩
  have split : cs = (cs.drop 0).take 1 ++ (cs.drop 1).take 1 ++ (cs.drop 2).take 1 ++ (cs.drop 3).take 1 ++ (cs.drop 4).take 1 ++ (cs.drop 5).take 1 ++ (cs.drop 6).take 8 ++ (cs.drop 14).take 8 := by
    match cs, hlen with
    | [c0, c1, c2, c3, c4, c5, c6, c7, c8, c9, c10, c11, c12, c13, c14, c15, c16, c17, c18, c19, c20, c21], _ => rfl
  rw [split, e0, e1, e2, e3, e4, e5, e6, e7]
  rfl
theorem open26 {v : Value} {d : DataW H} {p : List MemPlace} {b0 : Nat} {r : Reach} (hv : Value.okWide Try.prog w r b0 26 v) (h : DataW.Trod enc Try.prog w base sp held 26 v d p) : ∃ a : Vt, v = a.v ∧ a.wf := by
  obtain ⟨cs, rfl, _⟩ := okWide_struct Try.underlying26 hv
  obtain ⟨fuel, hf⟩ := h
  obtain ⟨a, ha, hw⟩ := rd26 hf
  refine ⟨a, ?_, hw⟩
  have : cs = a.l.toArray := by rw [← ha]; simp [Value.cells]
  rw [this]; rfl
theorem open24 {v : Value} {d : DataW H} {p : List MemPlace} {b0 : Nat} {r : Reach} (hv : Value.okWide Try.prog w r b0 24 v) (h : DataW.Trod enc Try.prog w base sp held 24 v d p) : ∃ a : Nm, v = a.v := by
  obtain ⟨cs, rfl⟩ : ∃ cs, v = .agg cs := by
    simp only [Value.okWide, Try.underlying24] at hv
    obtain ⟨cs, h1, _⟩ := hv
    exact ⟨cs, h1⟩
  obtain ⟨fuel, hf⟩ := h
  obtain ⟨a, ha⟩ := rd24 hf
  refine ⟨a, ?_⟩
  have : cs = a.l.toArray := by rw [← ha]; simp [Value.cells]
  rw [this]; rfl
end
end Go.Proofs.Yteeopgpgbdhmhaa
