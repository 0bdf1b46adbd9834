/- How a list of signed votes that came in within the reach reads. No condition. -/
import Derived.Test.YteeopgpgbdhmhaaOn
import Derived.SizedLaws
namespace Go.Proofs.Yteeopgpgbdhmhaa
open Go.ChangeShapes Go.WideShapes Go.ChangeAt Go.RowKit
set_option maxRecDepth 20000
set_option linter.constructorNameAsVariable false
set_option linter.unusedVariables false
variable {H : Type} {enc : TypeId × Value → H} {w : World} {base : Nat} {sp : Nat → Bool} {held : Bool}
theorem bytesZ5 : Try.prog.bytesOf 5 = 1 := by kernel_rfl
theorem weightsAll_mem {P : Program} {e : TypeId} : ∀ {l : List (DataW H)} {d : DataW H} {n : Nat}, d ∈ l → n ∈ d.weights P e → n ∈ DataW.weightsAll P e l
  | [], _, _, h, _ => by simp at h
  | x :: l, d, n, h, hn => by
    rw [DataW.weightsAll]
    rcases List.mem_cons.1 h with rfl | h
    · exact List.mem_append_left _ hn
    · exact List.mem_append_right _ (weightsAll_mem h hn)
theorem openLz {α : Type} {C : Cd α} {T : TypeId} {Q : α → Prop} (hT : Try.prog.underlying T = some (.slice C.e)) (hc : Try.prog.cellsOf C.e = C.sz)
    (rd : ∀ (fuel : Nat) (cs : List Value) (x : DataW H × List MemPlace), DataW.trod enc Try.prog w base sp held fuel C.e cs = some x → (∀ n ∈ x.1.weights Try.prog C.e, n ≤ reachBytes) → ∃ a, cs = C.l a ∧ Q a)
    {v : Value} {d : DataW H} {p : List MemPlace} {b0 : Nat} {r : Reach} (hv : Value.okWide Try.prog w r b0 T v) (h : DataW.Trod enc Try.prog w base sp held T v d p) (hw : ∀ n ∈ d.weights Try.prog T, n ≤ reachBytes) : ∃ xs : List α, Rs w v xs.length C.sz (C.cs xs) ∧ ∀ x ∈ xs, Q x := by
  obtain ⟨A, len, cap, rfl⟩ := okWide_slice hT hv
  obtain ⟨fuel, hf⟩ := h
  have hpos := C.pos
  rcases DataW.trod_slice hT hf with ⟨hcs, _⟩ | ⟨a, l, c, elems, rest, n, _, hcs, hx, hb, hl, hm, hlen, hel, _, _⟩
  · simp [Value.cells] at hcs
    obtain ⟨rfl, rfl, rfl⟩ := hcs
    exact ⟨[], ⟨by simp [Cd.cs], none, 0, rfl, Nat.le_refl _, by omega, fun _ => rfl, by intro j u hu; simp [Cd.cs] at hu⟩, by simp⟩
  · simp [Value.cells] at hcs
    obtain ⟨rfl, rfl, rfl⟩ := hcs
    cases hx
    have each : ∀ i, i < len → ∃ e : α, w.cells? base (a.add (i * C.sz)) C.sz = some (C.l e) ∧ Q e := by
      intro i hi
      have h1 := hel i hi
      have hie : i < elems.length := by omega
      rw [hc, List.getElem?_eq_getElem hie, Option.bind_eq_some_iff] at h1
      obtain ⟨cs', hcs, hy⟩ := h1
      obtain ⟨e, rfl, ho⟩ := rd _ _ _ hy (fun m hm2 => hw m (by
        simp only [DataW.weights, hT]
        exact List.mem_cons_of_mem _ (List.mem_append_left _ (weightsAll_mem (List.mem_map.2 ⟨_, List.getElem_mem hie, rfl⟩) hm2))))
      exact ⟨e, hcs, ho⟩
    obtain ⟨es, hn, hes⟩ := choice_list each
    have hm' : maxLen = 9223372036854775807 := rfl
    refine ⟨es, ⟨cs_len es, some a, cap, by rw [hn], by omega, by omega, (by intro e; cases e), ?_⟩, ?_⟩
    · intro j u hu
      have hj : j < es.length * C.sz := by rw [← cs_len]; exact (List.getElem?_eq_some_iff.1 hu).1
      have hi : j / C.sz < es.length := by rw [Nat.div_lt_iff_lt_mul hpos]; exact hj
      have hmod : j % C.sz < C.sz := Nat.mod_lt _ hpos
      have hdm : j / C.sz * C.sz + j % C.sz = j := by rw [Nat.mul_comm]; exact Nat.div_add_mod j C.sz
      obtain ⟨h1, _⟩ := hes (j / C.sz) _ (List.getElem?_eq_getElem hi)
      have h2 := cs_at (C := C) (List.getElem?_eq_getElem hi) (j % C.sz) hmod
      rw [hdm, hu] at h2
      refine ⟨a, rfl, ?_⟩
      have h3 := (World.cells?_some h1).2.2 (j % C.sz) hmod
      rw [add_add', hdm] at h3
      rw [h3]; exact h2.symm
    · intro e he
      obtain ⟨i, hi⟩ := List.getElem?_of_mem he
      exact (hes i e hi).2
theorem rd31z {fuel : Nat} {cs : List Value} {x : DataW H × List MemPlace} (h : DataW.trod enc Try.prog w base sp held fuel 31 cs = some x) (hw : ∀ n ∈ x.1.weights Try.prog 31, n ≤ reachBytes) :
    ∃ A n c b, cs = [.slice A n c] ∧ Bs w (.slice A n c) b ∧ b.length ≤ reachBytes := by
  obtain ⟨A, n, c, b, hcs, hb⟩ := rd31 h
  refine ⟨A, n, c, b, hcs, hb, ?_⟩
  obtain ⟨hl, A', c', e, h1, h2, h3, h4⟩ := hb
  rcases DataW.trod_slice Try.underlying31 h with ⟨hcs2, _⟩ | ⟨a, len, cap, elems, rest, m, _, hcs2, hx, _, _, _, he, _⟩
  · rw [hcs] at hcs2
    injection hcs2 with e1
    injection e with e2 e3 e4
    injection e1 with e5 e6 e7
    have : b.length = 0 := by omega
    rw [this]; exact Nat.zero_le _
  · rw [hcs] at hcs2
    injection hcs2 with e1
    injection e with e2 e3 e4
    injection e1 with e5 e6 e7
    have hz := hw ((elems.length + rest.length) * Try.prog.bytesOf 5) (by
      rw [hx]
      simp only [DataW.weights, Try.underlying31, List.length_map]
      exact List.mem_cons_self ..)
    rw [bytesZ5] at hz
    omega
theorem rd53z {fuel : Nat} {cs : List Value} {x : DataW H × List MemPlace} (h : DataW.trod enc Try.prog w base sp held fuel 53 cs = some x) (hw : ∀ n ∈ x.1.weights Try.prog 53, n ≤ reachBytes) :
    ∃ s : Sg, cs = s.l ∧ s.ok w ∧ s.vote.wf ∧ s.sig.length ≤ reachBytes := by
  obtain ⟨xs, m, rfl, _, hlen, hxs, hi⟩ := DataW.trod_struct Try.underlying53 h
  rw [cells53] at hlen
  have hx : ∀ i : Nat, i < 2 → xs[i]? = some (xs[i]?.getD x) := fun i h8 => by
    have : i < xs.length := by rw [hxs]; exact h8
    simp [this]
  have g0 : DataW.trod enc Try.prog w base sp held m 26 ((cs.drop 0).take (Try.prog.cellsOf 26)) = xs[0]? := hi 0 _ rfl
  have g1 : DataW.trod enc Try.prog w base sp held m 31 ((cs.drop 22).take (Try.prog.cellsOf 31)) = xs[1]? := hi 1 _ rfl
  have hw1 : ∀ y, xs[1]? = some y → ∀ n ∈ y.1.weights Try.prog 31, n ≤ reachBytes := by
    intro y hy n hn
    refine hw n ?_
    rename_i hxx
    subst hxx
    simp only [DataW.weights, Try.underlying53]
    exact DataW.weights_mem_each (j := 1) (t := 31) (d := y.1) rfl (by rw [List.getElem?_map, hy]; rfl) n hn
  rw [hx _ (by omega)] at g0 g1
  rw [cells26] at g0
  rw [cells31] at g1
  obtain ⟨v, ev, wv⟩ := rd26 g0
  obtain ⟨A, n, c, b, eb, hb, hbz⟩ := rd31z g1 (hw1 _ (hx 1 (by omega)))
  refine ⟨⟨v, A, n, c, b⟩, ?_, hb, wv, hbz⟩
  have split : cs = (cs.drop 0).take 22 ++ (cs.drop 22).take 1 := by
    rw [List.drop_zero, List.take_of_length_le (show (cs.drop 22).length ≤ 1 by rw [List.length_drop]; omega), List.take_append_drop]
  rw [split, ev, eb]; rfl
variable {v : Value} {d : DataW H} {p : List MemPlace} {b0 : Nat} {r : Reach}
def SsInz (w : World) (v : Value) (ss : List Sg) : Prop := SsIn w v ss ∧ ∀ s ∈ ss, s.sig.length ≤ 140737488355328
theorem open46z (hv : Value.okWide Try.prog w r b0 46 v) (h : DataW.Trod enc Try.prog w base sp held 46 v d p) {ts : List TypeId} {ds : List (DataW H)}
    (hs : (DataW.weightsEach Try.prog ts ds).all (· ≤ reachBytes) = true) {j : Nat} (ht : ts[j]? = some 46) (hd : ds[j]? = some d) : ∃ ss : List Sg, SsInz w v ss := by
  have hw : ∀ n ∈ d.weights Try.prog 46, n ≤ reachBytes := fun n hn => by
    have := List.all_eq_true.1 hs n (DataW.weights_mem_each ht hd n hn)
    simpa using this
  obtain ⟨xs, h1, h2⟩ := openLz (C := cS) (Q := fun s => s.ok w ∧ s.vote.wf ∧ s.sig.length ≤ reachBytes) Try.underlying46 cells53 (fun fuel cs x hx hz => by obtain ⟨a, ha, ho, hw, hz⟩ := rd53z hx hz; exact ⟨a, ha, ho, hw, hz⟩) hv h hw
  exact ⟨xs, ⟨⟨h1, fun x hx => (h2 x hx).1.okf (Ext.refl w) (Nat.le_refl _)⟩, fun x hx => (h2 x hx).2.1⟩, fun x hx => Nat.le_trans (h2 x hx).2.2 (by unfold reachBytes; omega)⟩
end Go.Proofs.Yteeopgpgbdhmhaa
