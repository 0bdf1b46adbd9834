/- sort.SliceStable over a list of signed votes of the call's own: it is sorted, with the same elements. No condition. -/
import Derived.Test.YteeopgpgbdhmhaaWS
namespace Go.Proofs.Yteeopgpgbdhmhaa
open Go.RowKit Go.Lib
set_option linter.unusedVariables false
set_option linter.unusedSimpArgs false
def srtL (xs : List Sg) : Prop := ∀ (i j : Nat) (x y : Sg), i < j → xs[i]? = some x → xs[j]? = some y → lessP y.p x.p = false
def ltS (a b : Sg) : Bool := lessP a.p b.p
theorem ordS : Ordd ltS := sto_P.ord.pull Sg.p
def Sorted46 (lo lk : Nat) (v : Value) (xs : List Sg) (w w' : World) : Prop :=
  w.grownBy w' v.ownBlock ∧ Fb lo w w' ∧ ∃ xs', Ow cS lo lk w' v xs' ∧ xs'.length = xs.length ∧ (∀ p, p ∈ xs'.map Sg.p ↔ p ∈ xs.map Sg.p) ∧ srtL xs'
theorem lsf_getD {n i : Nat} (f : Nat → Sg) (h : i < n) : (lsf n f).getD i Sg.zero = f i := by rw [List.getD_eq_getElem?_getD, lsf_at f h]; rfl
theorem lsf_of (xs : List Sg) : lsf xs.length (fun k => xs.getD k Sg.zero) = xs := by
  apply List.ext_getElem?
  intro k
  by_cases hk : k < xs.length
  · rw [lsf_at _ hk, List.getD_eq_getElem?_getD, List.getElem?_eq_getElem hk]; rfl
  · rw [List.getElem?_eq_none (by rw [lsf_len]; omega), List.getElem?_eq_none (by omega)]
theorem swp_same {α : Type} (f : Nat → α) (i : Nat) : swp f i i = f := by
  funext k; unfold swp; split
  · rename_i h; rw [h]
  · rfl
theorem cv_less {g n cap aT lo : Nat} {tl : List Value} {f : Nat → Sg} {W : World} (h : RowS g n cap aT lo tl f W) (hc : n ≤ cap) (hm : cap ≤ 9223372036854775807) (hlo : lo ≤ g) {i j : Nat} (hi : i < n) (hj : j < n) :
    CV Try.prog (.func (.func 96) #[] #[.pointer (some ⟨aT, 0, none⟩)]) [i64 (i : Int), i64 (j : Int)] W (fun v W' => v = .bool (ltS (f i) (f j)) ∧ Ext W W') := by
  refine ⟨96, _, rfl, .inl ⟨Try.call96 _ _, ?_⟩⟩
  have := c96 lo i j aT (.slice (some ⟨g, 0, none⟩) n cap) (lsf n f) W (Nat.le_trans hlo (Nat.le_of_lt h.row.lt)) h.cell (h.ls hc hm) (by rw [lsf_len]; exact hi) (by rw [lsf_len]; exact hj)
  refine this.mono ?_
  rintro e W' ⟨rfl, hE⟩
  rw [lsf_getD f hi, lsf_getD f hj]
  exact ⟨_, rfl, rfl, hE⟩
theorem srt_many {g n cap aT lo : Nat} (tl : List Value) (hc : n ≤ cap) (hm : cap ≤ 9223372036854775807) (hlo : lo ≤ g) (hn : n ≤ 1000000) (hk : 2 ≤ n) :
    Srt Try.prog (RowS g n cap aT lo tl) g n (.func (.func 96) #[] #[.pointer (some ⟨aT, 0, none⟩)]) (.func (.func 154) #[] #[.slice (some ⟨g, 0, none⟩) n cap, typeHandle Try.prog 53]) ltS where
  ord := ordS
  lp := rfl
  sp := rfl
  nb := hn
  bound := fun f W h => h.row.lt
  ext := fun f W W' h e => h.ext e
  less := fun f W i j h hi hj => cv_less h hc hm hlo hi hj
  swap := fun f W i j h hi hj => by
    obtain ⟨W', h1, h2, h3⟩ := run_swapS h hlo hi hj
    refine ⟨154, _, rfl, .inr ⟨.tuple #[], W', ?_, rfl, h2, h3⟩⟩
    have e : ([i64 (i : Int), i64 (j : Int)].toArray ++ #[Value.slice (some ⟨g, 0, none⟩) n cap, typeHandle Try.prog 53]) = #[.int .i64 (i : Int), .int .i64 (j : Int), .slice (some ⟨g, 0, none⟩) n cap, typeHandle Try.prog 53] := rfl
    rw [e, ext154, h1]
    rfl
theorem srt_one {g cap aT lo : Nat} (tl : List Value) (hc : 1 ≤ cap) (hm : cap ≤ 9223372036854775807) (hlo : lo ≤ g) :
    Srt Try.prog (RowS g 1 cap aT lo tl) g 1 (.func (.func 96) #[] #[.pointer (some ⟨aT, 0, none⟩)]) (.func (.func 147) #[] #[]) ltS where
  ord := ordS
  lp := rfl
  sp := rfl
  nb := by decide
  bound := fun f W h => h.row.lt
  ext := fun f W W' h e => h.ext e
  less := fun f W i j h hi hj => cv_less h hc hm hlo hi hj
  swap := fun f W i j h hi hj => by
    obtain rfl : i = 0 := by omega
    obtain rfl : j = 0 := by omega
    refine ⟨147, _, rfl, .inr ⟨.tuple #[], W, ?_, rfl, Chg.refl _ _, by rw [swp_same]; exact h⟩⟩
    rw [ext147]
    rfl
theorem srt_zero {g cap aT lo : Nat} (tl : List Value) : Srt Try.prog (RowS g 0 cap aT lo tl) g 0 (.func (.func 96) #[] #[.pointer (some ⟨aT, 0, none⟩)]) (.func (.func 146) #[] #[]) ltS where
  ord := ordS
  lp := rfl
  sp := rfl
  nb := by decide
  bound := fun f W h => h.row.lt
  ext := fun f W W' h e => h.ext e
  less := fun f W i j h hi hj => by omega
  swap := fun f W i j h hi hj => by omega
theorem srt_nil {aT : Nat} : Srt Try.prog (fun (_ : Nat → Sg) W => Blk W aT [.slice none 0 0] 46) aT 0 (.func (.func 96) #[] #[.pointer (some ⟨aT, 0, none⟩)]) (.func (.func 146) #[] #[]) ltS where
  ord := ordS
  lp := rfl
  sp := rfl
  nb := by decide
  bound := fun f W h => h.lt
  ext := fun f W W' h e => h.ext e
  less := fun f W i j h hi hj => by omega
  swap := fun f W i j h hi hj => by omega
theorem sort46_of {g n cap aT lo lk : Nat} {tl : List Value} {f : Nat → Sg} {w : World} {sf : Value} (hg : lk ≤ g) (hll : lo ≤ lk) (hc : n ≤ cap) (hm : cap ≤ maxLen) (htl : tl.length = cap * 23 - n * 23) (hS : RowS g n cap aT lo tl f w)
    (hR : Srt Try.prog (RowS g n cap aT lo tl) g n (.func (.func 96) #[] #[.pointer (some ⟨aT, 0, none⟩)]) sf ltS) (hsw : isSw (.slice (some ⟨g, 0, none⟩) n cap) sf) :
    Calls Try.prog 95 [.iface 46 (.slice (some ⟨g, 0, none⟩) n cap), .func (.func 96) #[] #[.pointer (some ⟨aT, 0, none⟩)]].toArray w (fun e w' => e = .returned (.tuple #[]) ∧ Sorted46 lo lk (.slice (some ⟨g, 0, none⟩) n cap) (lsf n f) w w') := by
  refine (c95 hR f (some ⟨g, 0, none⟩) cap w hS hsw).mono ?_
  rintro e w' ⟨rfl, hch, f', hS', hmv, hsr⟩
  have hfb : Fb lo w w' := Fb.chg hch (Nat.le_trans hll hg) (Blk.notB hS.row rfl)
  refine ⟨rfl, ⟨hch.os, hch.tape, hch.output, hch.size, fun k hk hne => hch.block k hk (fun e => hne (by rw [e]; rfl))⟩, hfb, lsf n f', ⟨?_, fun x hx => ?_⟩, by rw [lsf_len, lsf_len], fun p => ?_, ?_⟩
  · have hcl : (cS.cs (lsf n f')).length = n * 23 := by rw [cs_len, lsf_len]; rfl
    have hle : n * 23 ≤ cap * 23 := Nat.mul_le_mul_right _ hc
    rw [lsf_len]
    refine ⟨hcl, .inr ⟨g, cap, _, rfl, hg, hS'.row, hc, hm, ?_, ?_⟩⟩
    · show (cS.cs (lsf n f') ++ tl).toArray.size = cap * 23
      rw [List.size_toArray, List.length_append, hcl, htl]; omega
    · exact List.take_left' hcl
  · obtain ⟨k, hk⟩ := List.getElem?_of_mem hx
    have hkn : k < n := by have := (List.getElem?_eq_some_iff.1 hk).1; rwa [lsf_len] at this
    rw [lsf_at f' hkn] at hk; cases hk; exact hS'.ok k hkn
  · constructor
    · intro hp
      obtain ⟨x, hx, rfl⟩ := List.mem_map.1 hp
      obtain ⟨k, hk⟩ := List.getElem?_of_mem hx
      have hkn : k < n := by have := (List.getElem?_eq_some_iff.1 hk).1; rwa [lsf_len] at this
      rw [lsf_at f' hkn] at hk; cases hk
      obtain ⟨j, _, hj, e⟩ := hmv.to k (Nat.zero_le _) hkn
      exact List.mem_map.2 ⟨f j, List.mem_of_getElem? (lsf_at f hj), by rw [e]⟩
    · intro hp
      obtain ⟨x, hx, rfl⟩ := List.mem_map.1 hp
      obtain ⟨k, hk⟩ := List.getElem?_of_mem hx
      have hkn : k < n := by have := (List.getElem?_eq_some_iff.1 hk).1; rwa [lsf_len] at this
      rw [lsf_at f hkn] at hk; cases hk
      obtain ⟨j, _, hj, e⟩ := hmv.fro k (Nat.zero_le _) hkn
      exact List.mem_map.2 ⟨f' j, List.mem_of_getElem? (lsf_at f' hj), by rw [e]⟩
  · intro i j x y hij hx hy
    have hjn : j < n := by have := (List.getElem?_eq_some_iff.1 hy).1; rwa [lsf_len] at this
    rw [lsf_at f' (by omega)] at hx
    rw [lsf_at f' hjn] at hy
    cases hx; cases hy
    exact hsr i j (Nat.zero_le _) hij hjn
theorem sort46 {lo lk aT : Nat} {v : Value} {xs : List Sg} {w : World} (hO : Ow cS lo lk w v xs) (hll : lo ≤ lk) (hT : Blk w aT [v] 46) (hn : xs.length ≤ 1000000) :
    Calls Try.prog 95 [.iface 46 v, .func (.func 96) #[] #[.pointer (some ⟨aT, 0, none⟩)]].toArray w (fun e w' => e = .returned (.tuple #[]) ∧ Sorted46 lo lk v xs w w') := by
  obtain ⟨⟨hl, ⟨rfl, h0⟩ | ⟨g, cap, cur, rfl, hg, hb, h1, h2, h3, h4⟩⟩, hok⟩ := hO
  · obtain rfl : xs = [] := List.eq_nil_of_length_eq_zero h0
    refine (c95 srt_nil (fun _ => Sg.zero) none 0 w hT (isSw_zero none 0)).mono ?_
    rintro e w' ⟨rfl, hch, f', hS', _, _⟩
    have hblk : ∀ k, k < w.heap.size → w'.heap[k]? = w.heap[k]? := fun k hk => by
      by_cases e : k = aT
      · subst e
        have e1 : w'.heap[k]? = _ := hS'
        have e2 : w.heap[k]? = _ := hT
        rw [e1, e2]
      · exact hch.block k hk e
    have hx : Ext w w' := ⟨hch.os, hch.tape, hch.output, hch.size, hblk⟩
    exact ⟨rfl, ⟨hch.os, hch.tape, hch.output, hch.size, fun k hk _ => hblk k hk⟩, Fb.ext hx, [], Ow.nil _ _ _ _, rfl, fun _ => Iff.rfl, fun i j x y _ hx => by simp at hx⟩
  · have hB : Blk w g cur.toList 53 := by
      have hb' : w.heap[g]? = some (.cells cur 53 (0, 0)) := hb
      simpa [Blk] using hb'
    have h3' : cur.size = cap * 23 := h3
    have h4' : cur.toList.take (xs.length * 23) = cS.cs xs := h4
    have hcat : cur.toList = cS.cs (lsf xs.length (fun k => xs.getD k Sg.zero)) ++ cur.toList.drop (xs.length * 23) := by rw [lsf_of, ← h4', List.take_append_drop]
    rw [hcat] at hB
    have hS : RowS g xs.length cap aT lo (cur.toList.drop (xs.length * 23)) (fun k => xs.getD k Sg.zero) w := ⟨hB, hT, fun k hk => hok _ (by
      show xs.getD k Sg.zero ∈ xs
      rw [List.getD_eq_getElem?_getD, List.getElem?_eq_getElem hk]; exact List.getElem_mem hk)⟩
    have hm : cap ≤ 9223372036854775807 := h2
    have htl : (cur.toList.drop (xs.length * 23)).length = cap * 23 - xs.length * 23 := by rw [List.length_drop]; simp [h3']
    have key : ∀ sf, Srt Try.prog (RowS g xs.length cap aT lo (cur.toList.drop (xs.length * 23))) g xs.length (.func (.func 96) #[] #[.pointer (some ⟨aT, 0, none⟩)]) sf ltS → isSw (.slice (some ⟨g, 0, none⟩) xs.length cap) sf →
        Calls Try.prog 95 [.iface 46 (.slice (some ⟨g, 0, none⟩) xs.length cap), .func (.func 96) #[] #[.pointer (some ⟨aT, 0, none⟩)]].toArray w (fun e w' => e = .returned (.tuple #[]) ∧ Sorted46 lo lk (.slice (some ⟨g, 0, none⟩) xs.length cap) xs w w') := by
      intro sf hR hsw
      have := sort46_of hg hll h1 h2 htl hS hR hsw
      rwa [lsf_of] at this
    rcases Nat.lt_or_ge xs.length 2 with hs | hs
    · by_cases hz : xs.length = 0
      · refine key (.func (.func 146) #[] #[]) ?_ ?_
        · rw [hz]; exact srt_zero _
        · rw [hz]; exact isSw_zero _ _
      · have h1l : xs.length = 1 := by omega
        refine key (.func (.func 147) #[] #[]) ?_ ?_
        · rw [h1l]; rw [h1l] at h1; exact srt_one _ h1 hm (Nat.le_trans hll hg)
        · rw [h1l]; exact isSw_one _ _
    · exact key _ (srt_many _ h1 hm (Nat.le_trans hll hg) hn hs) (isSw_many _ _ hs)
end Go.Proofs.Yteeopgpgbdhmhaa
