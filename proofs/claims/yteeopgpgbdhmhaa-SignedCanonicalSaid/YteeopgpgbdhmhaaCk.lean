/- What is kept of a sorted list of signed votes is the canonical list. No condition. -/
import Derived.Test.YteeopgpgbdhmhaaCj
namespace Go.Proofs.Yteeopgpgbdhmhaa
open Go.RowKit Go.Lib
set_option linter.unusedVariables false
theorem lessP_V {x y : Pv} (h : lessP x y = false) : lessV x.1 y.1 = false := by
  by_cases e : x.1 = y.1
  · rw [e]; exact less_irr _
  · rw [lessP_ne e] at h; exact h
theorem srt_at {zs : List Sg} (h : srtL zs) {i j : Nat} (hij : i < j) (hj : j < zs.length) : lessP (zs.getD j Sg.zero).p (zs.getD i Sg.zero).p = false :=
  h i j _ _ hij (getD_some (by omega)) (getD_some hj)
theorem srt_step {zs : List Sg} (h : srtL zs) {i k : Nat} (hik : i < k) (hk : k < zs.length) (hn : (zs.getD k Sg.zero).vote ≠ (zs.getD (k - 1) Sg.zero).vote) : lessV (zs.getD i Sg.zero).vote (zs.getD k Sg.zero).vote = true := by
  have h1 : lessV (zs.getD k Sg.zero).vote (zs.getD i Sg.zero).vote = false := lessP_V (srt_at h hik hk)
  have h2 : lessV (zs.getD k Sg.zero).vote (zs.getD (k - 1) Sg.zero).vote = false := lessP_V (srt_at h (by omega) hk)
  by_cases e : (zs.getD i Sg.zero).vote = (zs.getD k Sg.zero).vote
  · exfalso
    by_cases e2 : i = k - 1
    · subst e2; exact hn e.symm
    · have h3 : lessV (zs.getD (k - 1) Sg.zero).vote (zs.getD i Sg.zero).vote = false := lessP_V (srt_at h (by omega) (by omega))
      rw [e] at h3
      rcases less_total hn with h4 | h4
      · rw [h4] at h2; cases h2
      · rw [h4] at h3; cases h3
  · rcases less_total e with h4 | h4
    · exact h4
    · rw [h4] at h1; cases h1
theorem ddn_inv {zs : List Sg} (h : srtL zs) : ∀ k, k ≤ zs.length → asc ((ddn zs k).map Sg.p) ∧ (∀ y ∈ ddn zs k, ∃ i, i < k ∧ y = zs.getD i Sg.zero) ∧ (∀ i, i < k → ∃ j, j ≤ i ∧ zs.getD j Sg.zero ∈ ddn zs k ∧ (zs.getD j Sg.zero).vote = (zs.getD i Sg.zero).vote)
  | 0, _ => ⟨List.Pairwise.nil, fun y hy => by simp [ddn] at hy, fun i hi => by omega⟩
  | k + 1, hk => by
    obtain ⟨h1, h2, h3⟩ := ddn_inv h k (by omega)
    by_cases hc : k = 0 ∨ (zs.getD k Sg.zero).vote ≠ (zs.getD (k - 1) Sg.zero).vote
    · rw [← ddn_y rfl hc]
      refine ⟨?_, fun y hy => ?_, fun i hi => ?_⟩
      · rw [List.map_append]
        refine List.pairwise_append.2 ⟨h1, by simp, fun a ha b hb => ?_⟩
        obtain ⟨y, hy, rfl⟩ := List.mem_map.1 ha
        obtain ⟨i, hi, rfl⟩ := h2 y hy
        rw [List.map_singleton, List.mem_singleton] at hb
        subst hb
        rcases hc with hc | hc
        · omega
        · exact srt_step h hi (by omega) hc
      · rcases List.mem_append.1 hy with hy | hy
        · obtain ⟨i, hi, e⟩ := h2 y hy; exact ⟨i, by omega, e⟩
        · rw [List.mem_singleton] at hy; exact ⟨k, by omega, hy⟩
      · by_cases hik : i < k
        · obtain ⟨j, hj, hm, e⟩ := h3 i hik; exact ⟨j, hj, List.mem_append_left _ hm, e⟩
        · obtain rfl : i = k := by omega
          exact ⟨i, Nat.le_refl _, List.mem_append_right _ (List.mem_singleton_self _), rfl⟩
    · rw [← ddn_n (ys := ddn zs k) rfl hc]
      refine ⟨h1, fun y hy => ?_, fun i hi => ?_⟩
      · obtain ⟨i, hi, e⟩ := h2 y hy; exact ⟨i, by omega, e⟩
      · by_cases hik : i < k
        · exact h3 i hik
        · obtain rfl : i = k := by omega
          have hc2 : i ≠ 0 ∧ (zs.getD i Sg.zero).vote = (zs.getD (i - 1) Sg.zero).vote := by
            refine ⟨fun e => hc (.inl e), ?_⟩
            by_cases e : (zs.getD i Sg.zero).vote = (zs.getD (i - 1) Sg.zero).vote
            · exact e
            · exact absurd (.inr e) hc
          obtain ⟨j, hj, hm, e⟩ := h3 (i - 1) (by omega)
          exact ⟨j, by omega, hm, e.trans hc2.2.symm⟩
theorem ddn_can {zs : List Sg} (h : srtL zs) : IsCan (zs.map Sg.p) ((ddn zs zs.length).map Sg.p) := by
  obtain ⟨h1, h2, h3⟩ := ddn_inv h zs.length (Nat.le_refl _)
  refine ⟨h1, fun y hy => ?_, fun x hx => ?_⟩
  · obtain ⟨a, ha, rfl⟩ := List.mem_map.1 hy
    obtain ⟨i, hi, rfl⟩ := h2 a ha
    exact List.mem_map.2 ⟨_, List.mem_of_getElem? (getD_some hi), rfl⟩
  · obtain ⟨a, ha, rfl⟩ := List.mem_map.1 hx
    obtain ⟨i, hi⟩ := List.getElem?_of_mem ha
    have hil := (List.getElem?_eq_some_iff.1 hi).1
    have e1 : zs.getD i Sg.zero = a := by rw [List.getD_eq_getElem?_getD, hi]; rfl
    obtain ⟨j, hj, hm, e⟩ := h3 i hil
    refine ⟨_, List.mem_map.2 ⟨_, hm, rfl⟩, by rw [← e1]; exact e, ?_⟩
    rw [← e1]
    by_cases hij : j = i
    · subst hij; exact ltB_irr _
    · have := srt_at h (show j < i by omega) hil
      rw [lessP_eq (show (zs.getD i Sg.zero).p.1 = (zs.getD j Sg.zero).p.1 from e.symm)] at this
      exact this
/-- Canonical's result holds the canonical list of what went in. -/
theorem can_of {xs zs ys : List Sg} (h : srtL zs) (hm : ∀ p, p ∈ zs.map Sg.p ↔ p ∈ xs.map Sg.p) (hy : ys = ddn zs zs.length) : IsCan (xs.map Sg.p) (ys.map Sg.p) := by
  have := ddn_can h
  subst hy
  exact ⟨this.up, fun y hyy => (hm y).1 (this.sub y hyy), fun x hx => this.all x ((hm x).2 hx)⟩
end Go.Proofs.Yteeopgpgbdhmhaa
