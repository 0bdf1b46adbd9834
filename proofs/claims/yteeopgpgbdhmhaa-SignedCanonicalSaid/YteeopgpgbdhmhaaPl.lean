/- The order of signed votes; canonical lists, as plain data. No condition. -/
import Derived.Test.YteeopgpgbdhmhaaSm
import Derived.Test.YteeopgpgbdhmhaaSo
import Derived.Lib.Bytealg
namespace Go.Proofs.Yteeopgpgbdhmhaa
set_option linter.unusedVariables false
def ltB : List UInt8 → List UInt8 → Bool
  | [], [] => false
  | [], _ :: _ => true
  | _ :: _, [] => false
  | a :: ta, b :: tb => if a < b then true else if b < a then false else ltB ta tb
theorem ltB_cmp : ∀ a b : List UInt8, decide (Go.Lib.compareBytes a b < 0) = ltB a b
  | [], [] => rfl
  | [], _ :: _ => rfl
  | _ :: _, [] => rfl
  | a :: ta, b :: tb => by
    unfold Go.Lib.compareBytes ltB
    split
    · rfl
    · split
      · rfl
      · exact ltB_cmp ta tb
theorem ltB_irr : ∀ a, ltB a a = false
  | [] => rfl
  | a :: ta => by unfold ltB; rw [if_neg (UInt8.lt_irrefl a), if_neg (UInt8.lt_irrefl a)]; exact ltB_irr ta
theorem ltB_cons {a b : UInt8} {ta tb : List UInt8} : ltB (a :: ta) (b :: tb) = true ↔ a < b ∨ (a = b ∧ ltB ta tb = true) := by
  show (if a < b then true else if b < a then false else ltB ta tb) = true ↔ _
  by_cases h1 : a < b
  · simp [h1]
  · by_cases h2 : b < a
    · have h3 : a ≠ b := fun e => by subst e; exact UInt8.lt_irrefl a h2
      simp [h1, h2, h3]
    · have h3 : a = b := UInt8.le_antisymm (UInt8.not_lt.1 h2) (UInt8.not_lt.1 h1)
      simp [h3]
theorem ltB_trans : ∀ a b c, ltB a b = true → ltB b c = true → ltB a c = true
  | [], [], _, h, _ => by simp [ltB] at h
  | [], _ :: _, [], _, h => by simp [ltB] at h
  | [], _ :: _, _ :: _, _, _ => rfl
  | _ :: _, [], _, h, _ => by simp [ltB] at h
  | _ :: _, _ :: _, [], _, h => by simp [ltB] at h
  | x :: xs, y :: ys, z :: zs, h, k => by
    rw [ltB_cons] at h k ⊢
    rcases h with h | ⟨rfl, h'⟩ <;> rcases k with k | ⟨rfl, k'⟩
    · exact .inl (UInt8.lt_trans h k)
    · exact .inl h
    · exact .inl k
    · exact .inr ⟨rfl, ltB_trans _ _ _ h' k'⟩
theorem ltB_tot : ∀ a b, a ≠ b → ltB a b = true ∨ ltB b a = true
  | [], [], h => absurd rfl h
  | [], _ :: _, _ => .inl rfl
  | _ :: _, [], _ => .inr rfl
  | x :: xs, y :: ys, h => by
    rw [ltB_cons, ltB_cons]
    by_cases e : x = y
    · subst e
      rcases ltB_tot xs ys (fun e => h (by rw [e])) with h | h
      · exact .inl (.inr ⟨rfl, h⟩)
      · exact .inr (.inr ⟨rfl, h⟩)
    · rcases UInt8.lt_or_lt_of_ne e with h1 | h1
      · exact .inl (.inl h1)
      · exact .inr (.inl h1)
/-- strict and total -/
structure Sto {α : Type} (lt : α → α → Bool) : Prop where
  irr : ∀ x, lt x x = false
  trans : ∀ x y z, lt x y = true → lt y z = true → lt x z = true
  tot : ∀ x y, x ≠ y → lt x y = true ∨ lt y x = true
theorem Sto.asym {α : Type} {lt : α → α → Bool} (h : Sto lt) {x y : α} (k : lt x y = true) : lt y x = false := by
  cases e : lt y x with
  | false => rfl
  | true => have := h.trans _ _ _ k e; rw [h.irr] at this; cases this
theorem Sto.ord {α : Type} {lt : α → α → Bool} (h : Sto lt) : Ordd lt := by
  refine ⟨fun x y k => h.asym k, fun x y z h1 h2 => ?_⟩
  cases e : lt z x with
  | false => rfl
  | true =>
    by_cases hxy : x = y
    · subst hxy; rw [e] at h2; exact h2
    · rcases h.tot x y hxy with h3 | h3
      · rw [h.trans _ _ _ e h3] at h2; exact h2
      · rw [h3] at h1; cases h1
theorem Ordd.pull {α β : Type} {lt : α → α → Bool} (h : Ordd lt) (g : β → α) : Ordd (fun a b => lt (g a) (g b)) := ⟨fun x y k => h.asym _ _ k, fun x y z k1 k2 => h.trans _ _ _ k1 k2⟩
theorem sto_B : Sto ltB := ⟨ltB_irr, ltB_trans, ltB_tot⟩
theorem sto_V : Sto lessV := ⟨less_irr, fun _ _ _ h k => less_trans h k, fun _ _ h => less_total h⟩
def lessP (x y : Pv) : Bool := if x.1 ≠ y.1 then lessV x.1 y.1 else ltB x.2 y.2
theorem lessP_ne {x y : Pv} (h : x.1 ≠ y.1) : lessP x y = lessV x.1 y.1 := by unfold lessP; rw [if_pos h]
theorem lessP_eq {x y : Pv} (h : x.1 = y.1) : lessP x y = ltB x.2 y.2 := by unfold lessP; rw [if_neg (by simp [h])]
theorem sto_P : Sto lessP := by
  refine ⟨fun x => by rw [lessP_eq rfl]; exact ltB_irr _, fun x y z h k => ?_, fun x y h => ?_⟩
  · by_cases e1 : x.1 = y.1
    · by_cases e2 : y.1 = z.1
      · rw [lessP_eq e1] at h; rw [lessP_eq e2] at k; rw [lessP_eq (e1.trans e2)]; exact ltB_trans _ _ _ h k
      · rw [lessP_ne e2] at k; rw [lessP_ne (by rw [e1]; exact e2), e1]; exact k
    · rw [lessP_ne e1] at h
      by_cases e2 : y.1 = z.1
      · rw [lessP_ne (by rw [← e2]; exact e1), ← e2]; exact h
      · rw [lessP_ne e2] at k
        have := less_trans h k
        by_cases e3 : x.1 = z.1
        · rw [e3, less_irr] at this; cases this
        · rw [lessP_ne e3]; exact this
  · by_cases e : x.1 = y.1
    · rw [lessP_eq e, lessP_eq e.symm]; exact ltB_tot _ _ (fun e2 => h (Prod.ext e e2))
    · rw [lessP_ne e, lessP_ne (fun e2 => e e2.symm)]; exact less_total e
/-! canonical lists -/
def asc (ys : List Pv) : Prop := ys.Pairwise fun a b => lessV a.1 b.1 = true
structure IsCan (xs ys : List Pv) : Prop where
  up : asc ys
  sub : ∀ y ∈ ys, y ∈ xs
  all : ∀ x ∈ xs, ∃ y ∈ ys, y.1 = x.1 ∧ ltB x.2 y.2 = false
/-- two ascending lists with the same elements -/
theorem asc_eq : ∀ ys zs : List Pv, asc ys → asc zs → (∀ y, y ∈ ys ↔ y ∈ zs) → ys = zs
  | [], [], _, _, _ => rfl
  | [], z :: zs, _, _, h => absurd ((h z).2 (List.mem_cons_self ..)) (by simp)
  | y :: ys, [], _, _, h => absurd ((h y).1 (List.mem_cons_self ..)) (by simp)
  | y :: ys, z :: zs, hy, hz, h => by
    have hy' := List.pairwise_cons.1 hy
    have hz' := List.pairwise_cons.1 hz
    have e : y = z := by
      rcases List.mem_cons.1 ((h y).1 (List.mem_cons_self ..)) with h1 | h1
      · exact h1
      · rcases List.mem_cons.1 ((h z).2 (List.mem_cons_self ..)) with h2 | h2
        · exact h2.symm
        · have := less_trans (hz'.1 y h1) (hy'.1 z h2)
          rw [less_irr] at this; cases this
    subst e
    have ny : ∀ (l : List Pv), (∀ a ∈ l, lessV y.1 a.1 = true) → y ∉ l := fun l hl hm => by have := hl y hm; rw [less_irr] at this; cases this
    congr 1
    refine asc_eq ys zs hy'.2 hz'.2 fun a => ⟨fun ha => ?_, fun ha => ?_⟩
    · rcases List.mem_cons.1 ((h a).1 (List.mem_cons_of_mem _ ha)) with h1 | h1
      · subst h1; exact absurd ha (ny ys hy'.1)
      · exact h1
    · rcases List.mem_cons.1 ((h a).2 (List.mem_cons_of_mem _ ha)) with h1 | h1
      · subst h1; exact absurd ha (ny zs hz'.1)
      · exact h1
theorem IsCan.half {xs xs' ys zs : List Pv} (hx : ∀ x, x ∈ xs ↔ x ∈ xs') (h : IsCan xs ys) (k : IsCan xs' zs) {y : Pv} (hy : y ∈ ys) : y ∈ zs := by
  obtain ⟨z, hz, e1, e2⟩ := k.all y ((hx y).1 (h.sub y hy))
  obtain ⟨y', hy', e3, e4⟩ := h.all z ((hx z).2 (k.sub z hz))
  have e5 : y' = y := by
    have hv : y'.1 = y.1 := e3.trans e1
    by_cases e : y' = y
    · exact e
    · exfalso
      rcases List.mem_iff_append.1 hy with ⟨s, t, rfl⟩
      rcases List.mem_append.1 hy' with h1 | h1
      · have := (List.pairwise_append.1 h.up).2.2 y' h1 y (List.mem_cons_self ..)
        rw [hv, less_irr] at this; cases this
      · rcases List.mem_cons.1 h1 with h1 | h1
        · exact e h1
        · have := (List.pairwise_cons.1 (List.pairwise_append.1 h.up).2.1).1 y' h1
          rw [hv, less_irr] at this; cases this
  subst e5
  have e6 : z.2 = y'.2 := by
    by_cases e : z.2 = y'.2
    · exact e
    · rcases ltB_tot _ _ e with h1 | h1
      · rw [h1] at e4; cases e4
      · rw [h1] at e2; cases e2
  rw [← Prod.ext e1 e6]; exact hz
theorem IsCan.uniq {xs xs' ys zs : List Pv} (hx : ∀ x, x ∈ xs ↔ x ∈ xs') (h : IsCan xs ys) (k : IsCan xs' zs) : ys = zs :=
  asc_eq ys zs h.up k.up fun y => ⟨fun hy => h.half hx k hy, fun hy => k.half (fun x => (hx x).symm) h hy⟩
theorem IsCan.self {xs : List Pv} (h : asc xs) : IsCan xs xs := ⟨h, fun _ h => h, fun x hx => ⟨x, hx, rfl, ltB_irr _⟩⟩
theorem IsCan.nil : IsCan [] [] := ⟨List.Pairwise.nil, by simp, by simp⟩
end Go.Proofs.Yteeopgpgbdhmhaa
