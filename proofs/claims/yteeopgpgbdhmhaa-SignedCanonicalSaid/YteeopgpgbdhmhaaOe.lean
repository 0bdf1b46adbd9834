/- How a list of evidence that came in reads. No condition. -/
import Derived.Test.YteeopgpgbdhmhaaSg
import Derived.DataReads
namespace Go.Proofs.Yteeopgpgbdhmhaa
open Go.ChangeShapes Go.WideShapes Go.ChangeAt Go.RowKit
set_option maxRecDepth 20000
set_option linter.constructorNameAsVariable false
theorem cells31 : Try.prog.cellsOf 31 = 1 := by kernel_rfl
theorem cells53 : Try.prog.cellsOf 53 = 23 := by kernel_rfl
theorem cells55 : Try.prog.cellsOf 55 = 46 := by kernel_rfl
variable {H : Type} {enc : TypeId × Value → H} {w : World} {base : Nat} {sp : Nat → Bool} {held : Bool} {fuel : Nat} {cs : List Value} {x : DataW H × List MemPlace}
theorem rd31 (h : DataW.trod enc Try.prog w base sp held fuel 31 cs = some x) : ∃ A n c b, cs = [.slice A n c] ∧ Bs w (.slice A n c) b := by
  rcases open_ints Try.underlying31 Try.underlying5 (by kernel_rfl) h with ⟨hcs, _⟩ | ⟨x, l, c, zs, hcs, _, hl, hm, hz, _, hcell, hwz⟩
  · exact ⟨none, 0, 0, [], hcs, rfl, none, 0, rfl, Nat.le_refl _, by omega, fun _ => rfl, by intro j u hu; simp [bl] at hu⟩
  · have hz' : l ≤ zs.length := by rw [hz]; split <;> omega
    refine ⟨some x, l, c, (zs.take l).map fun n => UInt8.ofNat n.toNat, hcs, by simp [bl_len], some x, c, ?_, ?_, ?_, ?_, ?_⟩
    · simp only [List.length_map, List.length_take]; rw [Nat.min_eq_left (by omega)]
    · simp only [List.length_map, List.length_take]; omega
    · have : maxLen = 9223372036854775807 := rfl
      omega
    · intro e; cases e
    · intro j u hu
      refine ⟨x, rfl, ?_⟩
      simp only [bl, List.getElem?_map, Option.map_eq_some_iff, List.getElem?_take] at hu
      obtain ⟨_, ⟨n, hn, rfl⟩, rfl⟩ := hu
      split at hn
      · have hj : j < zs.length := (List.getElem?_eq_some_iff.1 hn).1
        rw [hcell j hj]
        obtain ⟨b, hb⟩ := wf_u8 (hwz n (List.mem_of_getElem? hn))
        have e : zs.getD j 0 = n := by simp [List.getD, hn]
        rw [e]
        have hbn : n = (b.toNat : Int) := by simpa [u8] using hb
        rw [hbn]
        simp [u8]
      · cases hn
theorem rd53 (h : DataW.trod enc Try.prog w base sp held fuel 53 cs = some x) : ∃ s : Sg, cs = s.l ∧ s.ok w ∧ s.vote.wf := by
  obtain ⟨xs, m, rfl, _, hlen, hxs, hi⟩ := DataW.trod_struct Try.underlying53 h
  rw [cells53] at hlen
  have hx : ∀ i : Nat, i < 2 → xs[i]? = some (xs[i]?.getD x) := fun i h8 => by
    have : i < xs.length := by rw [hxs]; exact h8
    simp [this]
  have g0 : DataW.trod enc Try.prog w base sp held m 26 ((cs.drop 0).take (Try.prog.cellsOf 26)) = xs[0]? := hi 0 _ rfl
  have g1 : DataW.trod enc Try.prog w base sp held m 31 ((cs.drop 22).take (Try.prog.cellsOf 31)) = xs[1]? := hi 1 _ rfl
  rw [hx _ (by omega)] at g0 g1
  rw [cells26] at g0
  rw [cells31] at g1
  obtain ⟨v, ev, wv⟩ := rd26 g0
  obtain ⟨A, n, c, b, eb, hb⟩ := rd31 g1
  refine ⟨⟨v, A, n, c, b⟩, ?_, hb, wv⟩
  have split : cs = (cs.drop 0).take 22 ++ (cs.drop 22).take 1 := by
    rw [List.drop_zero, List.take_of_length_le (show (cs.drop 22).length ≤ 1 by rw [List.length_drop]; omega), List.take_append_drop]
  rw [split, ev, eb]; rfl
theorem rd55 (h : DataW.trod enc Try.prog w base sp held fuel 55 cs = some x) : ∃ e : Ev, cs = e.l ∧ e.ok w ∧ e.a.vote.wf ∧ e.b.vote.wf := by
  obtain ⟨xs, m, rfl, _, hlen, hxs, hi⟩ := DataW.trod_struct Try.underlying55 h
  rw [cells55] at hlen
  have hx : ∀ i : Nat, i < 2 → xs[i]? = some (xs[i]?.getD x) := fun i h8 => by
    have : i < xs.length := by rw [hxs]; exact h8
    simp [this]
  have g0 : DataW.trod enc Try.prog w base sp held m 53 ((cs.drop 0).take (Try.prog.cellsOf 53)) = xs[0]? := hi 0 _ rfl
  have g1 : DataW.trod enc Try.prog w base sp held m 53 ((cs.drop 23).take (Try.prog.cellsOf 53)) = xs[1]? := hi 1 _ rfl
  rw [hx _ (by omega)] at g0 g1
  rw [cells53] at g0 g1
  obtain ⟨s, es, os, ws⟩ := rd53 g0
  obtain ⟨t, et, ot, wt⟩ := rd53 g1
  refine ⟨⟨s, t⟩, ?_, ⟨os, ot⟩, ws, wt⟩
  have split : cs = (cs.drop 0).take 23 ++ (cs.drop 23).take 23 := by
    rw [List.drop_zero, List.take_of_length_le (show (cs.drop 23).length ≤ 23 by rw [List.length_drop]; omega), List.take_append_drop]
  rw [split, es, et]; rfl
theorem choice_list {α : Type} {n : Nat} {R : Nat → α → Prop} (h : ∀ i, i < n → ∃ a, R i a) : ∃ l : List α, l.length = n ∧ ∀ i a, l[i]? = some a → R i a := by
  refine ⟨List.ofFn fun i : Fin n => Classical.choose (h i.1 i.2), by simp, ?_⟩
  intro i a ha
  rw [List.getElem?_ofFn] at ha
  split at ha
  · rename_i hi
    cases ha
    exact Classical.choose_spec (h i hi)
  · cases ha
theorem open42 {v : Value} {d : DataW H} {p : List MemPlace} {b0 : Nat} {r : Reach} (hv : Value.okWide Try.prog w r b0 42 v) (h : DataW.Trod enc Try.prog w base sp held 42 v d p) : ∃ es : List Ev, Es w v es := by
  obtain ⟨A, len, cap, rfl⟩ := okWide_slice Try.underlying42 hv
  obtain ⟨fuel, hf⟩ := h
  rcases DataW.trod_slice Try.underlying42 hf with ⟨hcs, _⟩ | ⟨a, l, c, elems, rest, n, _, hcs, _, hb, hl, hm, hlen, hel, _, _⟩
  · simp [Value.cells] at hcs
    obtain ⟨rfl, rfl, rfl⟩ := hcs
    exact ⟨[], ⟨rfl, none, 0, rfl, Nat.le_refl _, by omega, fun _ => rfl, by intro j u hu; simp [evl] at hu⟩, by simp⟩
  · simp [Value.cells] at hcs
    obtain ⟨rfl, rfl, rfl⟩ := hcs
    have each : ∀ i, i < len → ∃ e : Ev, w.cells? base (a.add (i * 46)) 46 = some e.l ∧ e.ok w := by
      intro i hi
      have h1 := hel i hi
      rw [cells55, List.getElem?_eq_getElem (by omega), Option.bind_eq_some_iff] at h1
      obtain ⟨cs', hcs, hy⟩ := h1
      obtain ⟨e, rfl, ho, _⟩ := rd55 hy
      exact ⟨e, hcs, ho⟩
    obtain ⟨es, hn, hes⟩ := choice_list each
    have hm' : maxLen = 9223372036854775807 := rfl
    refine ⟨es, ⟨evl_len es, some a, cap, by rw [hn], by omega, by omega, (by intro e; cases e), ?_⟩, ?_⟩
    · intro j u hu
      have hj : j < es.length * 46 := by rw [← evl_len]; exact (List.getElem?_eq_some_iff.1 hu).1
      have hi : j / 46 < es.length := by omega
      obtain ⟨h1, _⟩ := hes (j / 46) _ (List.getElem?_eq_getElem hi)
      have h2 := evl_at (List.getElem?_eq_getElem hi) (j % 46) (by omega)
      rw [show j / 46 * 46 + j % 46 = j by omega, hu] at h2
      refine ⟨a, rfl, ?_⟩
      have h3 := (World.cells?_some h1).2.2 (j % 46) (by omega)
      rw [add_add', show j / 46 * 46 + j % 46 = j by omega] at h3
      rw [h3]; exact h2.symm
    · intro e he
      obtain ⟨i, hi⟩ := List.getElem?_of_mem he
      exact (hes i e hi).2
end Go.Proofs.Yteeopgpgbdhmhaa
