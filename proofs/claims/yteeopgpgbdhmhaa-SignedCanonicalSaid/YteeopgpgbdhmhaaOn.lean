/- How lists of names, of votes and of signed votes that came in read. No condition. -/
import Derived.Test.YteeopgpgbdhmhaaOe
import Derived.Test.YteeopgpgbdhmhaaLl
namespace Go.Proofs.Yteeopgpgbdhmhaa
open Go.ChangeShapes Go.WideShapes Go.ChangeAt Go.RowKit
set_option maxRecDepth 20000
set_option linter.constructorNameAsVariable false
variable {H : Type} {enc : TypeId × Value → H} {w : World} {base : Nat} {sp : Nat → Bool} {held : Bool}
theorem openL {α : Type} {C : Cd α} {T : TypeId} {Q : α → Prop} (hT : Try.prog.underlying T = some (.slice C.e)) (hc : Try.prog.cellsOf C.e = C.sz)
    (rd : ∀ (fuel : Nat) (cs : List Value) (x : DataW H × List MemPlace), DataW.trod enc Try.prog w base sp held fuel C.e cs = some x → ∃ a, cs = C.l a ∧ Q a)
    {v : Value} {d : DataW H} {p : List MemPlace} {b0 : Nat} {r : Reach} (hv : Value.okWide Try.prog w r b0 T v) (h : DataW.Trod enc Try.prog w base sp held T v d p) : ∃ xs : List α, Rs w v xs.length C.sz (C.cs xs) ∧ ∀ x ∈ xs, Q x := by
  obtain ⟨A, len, cap, rfl⟩ := okWide_slice hT hv
  obtain ⟨fuel, hf⟩ := h
  have hpos := C.pos
  rcases DataW.trod_slice hT hf with ⟨hcs, _⟩ | ⟨a, l, c, elems, rest, n, _, hcs, _, hb, hl, hm, hlen, hel, _, _⟩
  · simp [Value.cells] at hcs
    obtain ⟨rfl, rfl, rfl⟩ := hcs
    exact ⟨[], ⟨by simp [Cd.cs], none, 0, rfl, Nat.le_refl _, by omega, fun _ => rfl, by intro j u hu; simp [Cd.cs] at hu⟩, by simp⟩
  · simp [Value.cells] at hcs
    obtain ⟨rfl, rfl, rfl⟩ := hcs
    have each : ∀ i, i < len → ∃ e : α, w.cells? base (a.add (i * C.sz)) C.sz = some (C.l e) ∧ Q e := by
      intro i hi
      have h1 := hel i hi
      rw [hc, List.getElem?_eq_getElem (by omega), Option.bind_eq_some_iff] at h1
      obtain ⟨cs', hcs, hy⟩ := h1
      obtain ⟨e, rfl, ho⟩ := rd _ _ _ hy
      exact ⟨e, hcs, ho⟩
    obtain ⟨es, hn, hes⟩ := choice_list each
    have hm' : maxLen = 9223372036854775807 := rfl
    refine ⟨es, ⟨cs_len es, some a, cap, by rw [hn], by omega, by omega, (by intro e; cases e), ?_⟩, ?_⟩
    · intro j u hu
      have hj : j < es.length * C.sz := by rw [← cs_len]; exact (List.getElem?_eq_some_iff.1 hu).1
      have hi : j / C.sz < es.length := by rw [Nat.div_lt_iff_lt_mul hpos]; exact hj
      have hmod : j % C.sz < C.sz := Nat.mod_lt _ hpos
      have hdm : j / C.sz * C.sz + j % C.sz = j := by rw [Nat.mul_comm]; exact Nat.div_add_mod j C.sz
      obtain ⟨h1, _⟩ := hes (j / C.sz) _ (List.getElem?_eq_getElem hi)
      have h2 := cs_at (C := C) (List.getElem?_eq_getElem hi) (j % C.sz) hmod
      rw [hdm, hu] at h2
      refine ⟨a, rfl, ?_⟩
      have h3 := (World.cells?_some h1).2.2 (j % C.sz) hmod
      rw [add_add', hdm] at h3
      rw [h3]; exact h2.symm
    · intro e he
      obtain ⟨i, hi⟩ := List.getElem?_of_mem he
      exact (hes i e hi).2
variable {v : Value} {d : DataW H} {p : List MemPlace} {b0 : Nat} {r : Reach}
theorem open45 (hv : Value.okWide Try.prog w r b0 45 v) (h : DataW.Trod enc Try.prog w base sp held 45 v d p) : ∃ ns : List Nm, Ls cN w.heap.size w v ns := by
  obtain ⟨xs, h1, _⟩ := openL (C := cN) (Q := fun _ => True) Try.underlying45 cells24 (fun fuel cs x hx => by obtain ⟨a, ha⟩ := rd24 hx; exact ⟨a, ha, trivial⟩) hv h
  exact ⟨xs, h1, fun _ _ => trivial⟩
theorem open61 (hv : Value.okWide Try.prog w r b0 61 v) (h : DataW.Trod enc Try.prog w base sp held 61 v d p) : ∃ vs : List Vt, Ls cV w.heap.size w v vs := by
  obtain ⟨xs, h1, _⟩ := openL (C := cV) (Q := fun _ => True) Try.underlying61 cells26 (fun fuel cs x hx => by obtain ⟨a, ha, _⟩ := rd26 hx; exact ⟨a, ha, trivial⟩) hv h
  exact ⟨xs, h1, fun _ _ => trivial⟩
def SsIn (w : World) (v : Value) (ss : List Sg) : Prop := Ls cS w.heap.size w v ss ∧ ∀ s ∈ ss, s.vote.wf
theorem open46 (hv : Value.okWide Try.prog w r b0 46 v) (h : DataW.Trod enc Try.prog w base sp held 46 v d p) : ∃ ss : List Sg, SsIn w v ss := by
  obtain ⟨xs, h1, h2⟩ := openL (C := cS) (Q := fun s => s.ok w ∧ s.vote.wf) Try.underlying46 cells53 (fun fuel cs x hx => by obtain ⟨a, ha, ho, hw⟩ := rd53 hx; exact ⟨a, ha, ho, hw⟩) hv h
  exact ⟨xs, ⟨h1, fun x hx => (h2 x hx).1.okf (Ext.refl w) (Nat.le_refl _)⟩, fun x hx => (h2 x hx).2⟩
end Go.Proofs.Yteeopgpgbdhmhaa
