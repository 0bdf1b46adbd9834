/- What the law needs, part 6. No condition. -/
import Derived.Test.YteeopgpgbdhmhaaGreatFnd5
namespace Go.Proofs.YteeopgpgbdhmhaaGreat
open Go.RowKit Go.Lib
set_option linter.unusedVariables false
theorem condA {m k : Nat} {b : Bool} (h : ((((k : Nat) : Int) == 0) || (decide (((m : Nat) : Int) > 0) && b)) = true) : k = 0 ∨ b = true := by
  rcases Bool.or_eq_true_iff.1 h with h | h
  · have := eq_of_beq h; left; omega
  · exact .inr (Bool.and_eq_true_iff.1 h).2
theorem condA0 {m k : Nat} {b : Bool} (h : ((((k : Nat) : Int) == 0) || (decide (((m : Nat) : Int) > 0) && b)) = false) : 0 < k ∧ (0 < m → b = false) := by
  simp at h; exact ⟨by omega, fun hm => h.2 hm⟩
theorem condB {m : Nat} {b : Bool} (h : ((((m : Nat) : Int) == 0) || b) = true) : m = 0 ∨ b = true := by
  rcases Bool.or_eq_true_iff.1 h with h | h
  · have := eq_of_beq h; left; omega
  · exact .inr h
theorem condB0 {m : Nat} {b : Bool} (h : ((((m : Nat) : Int) == 0) || b) = false) : 0 < m ∧ b = false := by
  simp at h; exact ⟨by omega, h.2⟩
structure Mg (L zs ya yb : List Pv) : Prop where
  up : asc (zs ++ ya)
  up2 : asc (zs ++ yb)
  sub : ∀ y, y ∈ zs ∨ y ∈ ya ∨ y ∈ yb → y ∈ L
  cov : ∀ x ∈ L, ∃ y, (y ∈ zs ∨ y ∈ ya ∨ y ∈ yb) ∧ y.1 = x.1 ∧ ltB x.2 y.2 = false
theorem Mg.start {A B : List Pv} (ha : asc A) (hb : asc B) : Mg (A ++ B) [] A B :=
  ⟨ha, hb, fun y h => h.elim (fun h => absurd h (by simp)) (fun h => h.elim (List.mem_append_left _) (List.mem_append_right _)), fun x hx => ⟨x, (List.mem_append.1 hx).elim (fun h => .inr (.inl h)) (fun h => .inr (.inr h)), rfl, ltB_irr _⟩⟩
theorem Mg.swap {L zs ya yb : List Pv} (h : Mg L zs ya yb) : Mg L zs yb ya :=
  ⟨h.up2, h.up, fun y k => h.sub y (k.elim .inl fun k => .inr k.symm), fun x hx => by
    obtain ⟨y, k, e⟩ := h.cov x hx
    exact ⟨y, k.elim .inl (fun k => .inr k.symm), e⟩⟩
theorem Mg.take {L zs ya yb : List Pv} {a : Pv} (h : Mg L zs (a :: ya) yb) (hc : yb = [] ∨ ∃ b t, yb = b :: t ∧ lessV a.1 b.1 = true) : Mg L (zs ++ [a]) ya yb := by
  have hu := List.pairwise_append.1 h.up
  refine ⟨?_, ?_, ?_, ?_⟩
  · have := h.up
    rw [List.append_assoc]; exact this
  · rw [List.append_assoc]
    have hb := List.pairwise_append.1 h.up2
    refine List.pairwise_append.2 ⟨hu.1, List.pairwise_cons.2 ⟨fun y hy => ?_, hb.2.1⟩, fun x hx y hy => ?_⟩
    · rcases hc with rfl | ⟨b, t, rfl, hl⟩
      · simp at hy
      · rcases List.mem_cons.1 hy with rfl | hy
        · exact hl
        · exact less_trans hl ((List.pairwise_cons.1 hb.2.1).1 y hy)
    · rcases List.mem_cons.1 hy with rfl | hy
      · exact hu.2.2 x hx y (List.mem_cons_self ..)
      · exact hb.2.2 x hx y hy
  · intro y hy
    refine h.sub y ?_
    rcases hy with hy | hy | hy
    · rcases List.mem_append.1 hy with hy | hy
      · exact .inl hy
      · rw [List.mem_singleton] at hy; subst hy; exact .inr (.inl (List.mem_cons_self ..))
    · exact .inr (.inl (List.mem_cons_of_mem _ hy))
    · exact .inr (.inr hy)
  · intro x hx
    obtain ⟨y, hy, e⟩ := h.cov x hx
    refine ⟨y, ?_, e⟩
    rcases hy with hy | hy | hy
    · exact .inl (List.mem_append_left _ hy)
    · rcases List.mem_cons.1 hy with rfl | hy
      · exact .inl (List.mem_append_right _ (List.mem_singleton_self _))
      · exact .inr (.inl hy)
    · exact .inr (.inr hy)
theorem Mg.drop {L zs ya yb : List Pv} {a b : Pv} (h : Mg L zs (a :: ya) (b :: yb)) (he : a.1 = b.1) (hl : ltB a.2 b.2 = false) : Mg L zs ya (b :: yb) := by
  refine ⟨?_, h.up2, ?_, ?_⟩
  · have hu := List.pairwise_append.1 h.up
    exact List.pairwise_append.2 ⟨hu.1, (List.pairwise_cons.1 hu.2.1).2, fun x hx y hy => hu.2.2 x hx y (List.mem_cons_of_mem _ hy)⟩
  · intro y hy
    refine h.sub y ?_
    rcases hy with hy | hy | hy
    · exact .inl hy
    · exact .inr (.inl (List.mem_cons_of_mem _ hy))
    · exact .inr (.inr hy)
  · intro x hx
    obtain ⟨y, hy, e1, e2⟩ := h.cov x hx
    rcases hy with hy | hy | hy
    · exact ⟨y, .inl hy, e1, e2⟩
    · rcases List.mem_cons.1 hy with rfl | hy
      · exact ⟨b, .inr (.inr (List.mem_cons_self ..)), he.symm.trans e1, sto_B.ord.trans _ _ _ hl e2⟩
      · exact ⟨y, .inr (.inl hy), e1, e2⟩
    · exact ⟨y, .inr (.inr hy), e1, e2⟩
theorem Mg.fin {L zs : List Pv} (h : Mg L zs [] []) : IsCan L zs := by
  refine ⟨by have := h.up; rw [List.append_nil] at this; exact this, fun y hy => h.sub y (.inl hy), fun x hx => ?_⟩
  obtain ⟨y, hy, e⟩ := h.cov x hx
  rcases hy with hy | hy | hy
  · exact ⟨y, hy, e⟩
  · simp at hy
  · simp at hy
theorem IsCan.both {X Y A B zs : List Pv} (ha : IsCan X A) (hb : IsCan Y B) (h : IsCan (A ++ B) zs) : IsCan (X ++ Y) zs := by
  refine ⟨h.up, fun y hy => ?_, fun x hx => ?_⟩
  · rcases List.mem_append.1 (h.sub y hy) with k | k
    · exact List.mem_append_left _ (ha.sub y k)
    · exact List.mem_append_right _ (hb.sub y k)
  · rcases List.mem_append.1 hx with k | k
    · obtain ⟨y, hy, e1, e2⟩ := ha.all x k
      obtain ⟨z, hz, e3, e4⟩ := h.all y (List.mem_append_left _ hy)
      exact ⟨z, hz, e3.trans e1, sto_B.ord.trans _ _ _ e4 e2⟩
    · obtain ⟨y, hy, e1, e2⟩ := hb.all x k
      obtain ⟨z, hz, e3, e4⟩ := h.all y (List.mem_append_right _ hy)
      exact ⟨z, hz, e3.trans e1, sto_B.ord.trans _ _ _ e4 e2⟩
theorem uncons {α : Type} {xs : List α} {z : α} (h : 0 < xs.length) : xs = xs.getD 0 z :: ((xs.drop 1).take (xs.length - 1)) := by
  cases xs with
  | nil => simp at h
  | cons a t => simp
def Ms (L zs ya yb : List Sg) : Prop := Mg (L.map Sg.p) (zs.map Sg.p) (ya.map Sg.p) (yb.map Sg.p)
theorem Ms.start {A B : List Sg} {X Y : List Pv} (ha : IsCan X (A.map Sg.p)) (hb : IsCan Y (B.map Sg.p)) : Ms (A ++ B) [] A B := by
  unfold Ms
  rw [List.map_append]; exact Mg.start ha.up hb.up
theorem Ms.takeA {L zs ya yb : List Sg} (h : Ms L zs ya yb) (la : 0 < ya.length) (hc : yb.length = 0 ∨ lessV (ya.getD 0 Sg.zero).vote (yb.getD 0 Sg.zero).vote = true) : Ms L (zs ++ [ya.getD 0 Sg.zero]) ((ya.drop 1).take (ya.length - 1)) yb := by
  unfold Ms at *
  rw [uncons (z := Sg.zero) la, List.map_cons] at h
  rw [List.map_append]
  refine h.take ?_
  rcases Nat.eq_zero_or_pos yb.length with h0 | h0
  · left; rw [List.length_eq_zero_iff.1 h0]; rfl
  · right
    have hlt := hc.resolve_left (by omega)
    exact ⟨(yb.getD 0 Sg.zero).p, ((yb.drop 1).take (yb.length - 1)).map Sg.p, by rw [← List.map_cons, ← uncons h0], hlt⟩
theorem Ms.takeB {L zs ya yb : List Sg} (h : Ms L zs ya yb) (lb : 0 < yb.length) (hc : ya.length = 0 ∨ lessV (yb.getD 0 Sg.zero).vote (ya.getD 0 Sg.zero).vote = true) : Ms L (zs ++ [yb.getD 0 Sg.zero]) ya ((yb.drop 1).take (yb.length - 1)) :=
  (Ms.takeA (show Ms L zs yb ya from Mg.swap h) lb hc |> fun k => show Ms _ _ _ _ from Mg.swap k)
theorem Ms.dropA {L zs ya yb : List Sg} (h : Ms L zs ya yb) (la : 0 < ya.length) (lb : 0 < yb.length) (he : (ya.getD 0 Sg.zero).vote = (yb.getD 0 Sg.zero).vote) (hl : ltB (ya.getD 0 Sg.zero).sig (yb.getD 0 Sg.zero).sig = false) : Ms L zs ((ya.drop 1).take (ya.length - 1)) yb := by
  unfold Ms at *
  rw [uncons (z := Sg.zero) la, List.map_cons] at h
  rw [uncons (z := Sg.zero) lb, List.map_cons] at h ⊢
  exact h.drop he hl
theorem Ms.dropB {L zs ya yb : List Sg} (h : Ms L zs ya yb) (la : 0 < ya.length) (lb : 0 < yb.length) (he : (ya.getD 0 Sg.zero).vote = (yb.getD 0 Sg.zero).vote) (hl : ltB (yb.getD 0 Sg.zero).sig (ya.getD 0 Sg.zero).sig = false) : Ms L zs ya ((yb.drop 1).take (yb.length - 1)) :=
  show Ms _ _ _ _ from Mg.swap (Ms.dropA (show Ms L zs yb ya from Mg.swap h) lb la he.symm hl)
theorem Ms.fin {L zs ya yb : List Sg} (h : Ms L zs ya yb) (la : ya.length = 0) (lb : yb.length = 0) : IsCan (L.map Sg.p) (zs.map Sg.p) := by
  unfold Ms at h
  rw [List.length_eq_zero_iff.1 la, List.length_eq_zero_iff.1 lb] at h
  exact h.fin
theorem vote_eq {a b : Vt} (h1 : lessV a b = false) (h2 : lessV b a = false) : a = b := by
  by_cases e : a = b
  · exact e
  · rcases less_total e with h | h
    · rw [h] at h1; cases h1
    · rw [h] at h2; cases h2
theorem sle_y {a b : List UInt8} (h : sLe a b = true) : ltB b a = false := by rw [sLe_ltB] at h; simpa using h
theorem sle_n {a b : List UInt8} (h : sLe a b = false) : ltB a b = false := by rw [sLe_ltB] at h; exact sto_B.asym (by simpa using h)
theorem halves {xs A B zs : List Sg} {n : Nat} (ha : IsCan ((((xs.drop 0).take (n - 0))).map Sg.p) (A.map Sg.p)) (hb : IsCan ((((xs.drop n).take (xs.length - n))).map Sg.p) (B.map Sg.p)) (h : IsCan ((A ++ B).map Sg.p) (zs.map Sg.p)) : IsCan (xs.map Sg.p) (zs.map Sg.p) := by
  rw [List.map_append] at h
  have := IsCan.both ha hb h
  rw [← List.map_append, List.drop_zero, Nat.sub_zero, List.take_of_length_le (show (xs.drop n).length ≤ xs.length - n by rw [List.length_drop]; exact Nat.le_refl _), List.take_append_drop] at this
  exact this
theorem asc_of {ys : List Vt} (h : ∀ j : Nat, j + 1 < ys.length → lessV (ys.getD j Vt.zero) (ys.getD (j + 1) Vt.zero) = true) : ys.Pairwise fun a b => lessV a b = true := by
  have gen : ∀ j k : Nat, j < k → k < ys.length → lessV (ys.getD j Vt.zero) (ys.getD k Vt.zero) = true := by
    intro j k hjk
    induction hjk with
    | refl => exact fun hk => h j hk
    | step hm ih => exact fun hk => less_trans (ih (by omega)) (h _ hk)
  rw [List.pairwise_iff_getElem]
  intro i j hi hj hij
  have := gen i j hij hj
  simpa [List.getD, hi, hj] using this
theorem ascS_of {ys : List Sg} (h : ∀ j : Nat, j + 1 < ys.length → lessV (ys.getD j Sg.zero).vote (ys.getD (j + 1) Sg.zero).vote = true) : asc (ys.map Sg.p) := by
  have hv : ∀ j, j < ys.length → (ys.map Sg.vote).getD j Vt.zero = (ys.getD j Sg.zero).vote := fun j hj => by
    rw [List.getD_eq_getElem?_getD, List.getElem?_map, getD_some (d := Sg.zero) hj]; rfl
  have := asc_of (ys := ys.map Sg.vote) (fun j hj => by
    rw [List.length_map] at hj
    rw [hv _ (by omega), hv _ hj]; exact h j hj)
  unfold asc
  rw [List.pairwise_map] at this ⊢
  exact this
theorem can_of_asc {xs ys : List Sg} (h : ys.map Sg.p = xs.map Sg.p) (ha : ∀ j : Nat, j + 1 < xs.length → lessV (xs.getD j Sg.zero).vote (xs.getD (j + 1) Sg.zero).vote = true) : IsCan (xs.map Sg.p) (ys.map Sg.p) := by
  rw [h]; exact IsCan.self (ascS_of ha)
theorem copy_next {xs ys : List Sg} {i : Nat} {y : Sg} (h : ys.map Sg.p = (xs.take i).map Sg.p) (hi : i < xs.length) (hy : y.p = (xs.getD i Sg.zero).p) : (ys ++ [y]).map Sg.p = (xs.take (i + 1)).map Sg.p := by
  rw [List.map_append, h, List.take_add_one, List.map_append, getD_some (d := Sg.zero) hi]
  simp [hy]
def ascV (l : List Vt) : Prop := l.Pairwise fun a b => lessV a b = true
structure Mw (L zs ya yb : List Vt) : Prop where
  up : ascV (zs ++ ya)
  up2 : ascV (zs ++ yb)
  mem : ∀ x, x ∈ L ↔ x ∈ zs ∨ x ∈ ya ∨ x ∈ yb
theorem Mw.start {A B : List Vt} (ha : ascV A) (hb : ascV B) : Mw (A ++ B) [] A B := ⟨ha, hb, fun x => by simp⟩
theorem Mw.swap {L zs ya yb : List Vt} (h : Mw L zs ya yb) : Mw L zs yb ya := ⟨h.up2, h.up, fun x => by rw [h.mem]; constructor <;> (rintro (k | k | k) <;> simp [k])⟩
theorem Mw.takeA {L zs ya yb : List Vt} (h : Mw L zs ya yb) (la : 0 < ya.length) (hc : yb.length = 0 ∨ lessV (ya.getD 0 Vt.zero) (yb.getD 0 Vt.zero) = true) : Mw L (zs ++ [ya.getD 0 Vt.zero]) ((ya.drop 1).take (ya.length - 1)) yb := by
  have e := uncons (z := Vt.zero) la
  generalize ya.getD 0 Vt.zero = a at e hc ⊢
  generalize (ya.drop 1).take (ya.length - 1) = t at e ⊢
  subst e
  have hu := List.pairwise_append.1 h.up
  have hb := List.pairwise_append.1 h.up2
  refine ⟨by rw [List.append_assoc]; exact h.up, ?_, fun x => ?_⟩
  · rw [List.append_assoc]
    refine List.pairwise_append.2 ⟨hu.1, List.pairwise_cons.2 ⟨fun y hy => ?_, hb.2.1⟩, fun x hx y hy => ?_⟩
    · cases yb with
      | nil => simp at hy
      | cons b u =>
        have hl : lessV a b = true := hc.resolve_left (by simp)
        rcases List.mem_cons.1 hy with rfl | hy
        · exact hl
        · exact less_trans hl ((List.pairwise_cons.1 hb.2.1).1 y hy)
    · rcases List.mem_cons.1 hy with rfl | hy
      · exact hu.2.2 x hx y (List.mem_cons_self ..)
      · exact hb.2.2 x hx y hy
  · rw [h.mem, List.mem_append, List.mem_cons, List.mem_singleton]
    constructor
    · rintro (k | (k | k) | k) <;> simp [k]
    · rintro ((k | k) | k | k) <;> simp [k]
theorem Mw.takeB {L zs ya yb : List Vt} (h : Mw L zs ya yb) (lb : 0 < yb.length) (hc : ya.length = 0 ∨ lessV (yb.getD 0 Vt.zero) (ya.getD 0 Vt.zero) = true) : Mw L (zs ++ [yb.getD 0 Vt.zero]) ya ((yb.drop 1).take (yb.length - 1)) := (h.swap.takeA lb hc).swap
theorem Mw.dropA {L zs ya yb : List Vt} (h : Mw L zs ya yb) (la : 0 < ya.length) (lb : 0 < yb.length) (he : ya.getD 0 Vt.zero = yb.getD 0 Vt.zero) : Mw L zs ((ya.drop 1).take (ya.length - 1)) yb := by
  have e := uncons (z := Vt.zero) la
  have hm : yb.getD 0 Vt.zero ∈ yb := List.mem_of_getElem? (getD_some lb)
  rw [← he] at hm
  generalize ya.getD 0 Vt.zero = a at e hm
  generalize (ya.drop 1).take (ya.length - 1) = t at e ⊢
  subst e
  have hu := List.pairwise_append.1 h.up
  refine ⟨List.pairwise_append.2 ⟨hu.1, (List.pairwise_cons.1 hu.2.1).2, fun x hx y hy => hu.2.2 x hx y (List.mem_cons_of_mem _ hy)⟩, h.up2, fun x => ?_⟩
  rw [h.mem, List.mem_cons]
  constructor
  · rintro (k | (k | k) | k)
    · simp [k]
    · subst k; simp [hm]
    · simp [k]
    · simp [k]
  · rintro (k | k | k) <;> simp [k]
theorem Mw.fin {L zs ya yb : List Vt} (h : Mw L zs ya yb) (la : ya.length = 0) (lb : yb.length = 0) : ascV zs ∧ ∀ x, x ∈ zs ↔ x ∈ L := by
  rw [List.length_eq_zero_iff.1 la, List.length_eq_zero_iff.1 lb] at h
  refine ⟨by have := h.up; rw [List.append_nil] at this; exact this, fun x => ?_⟩
  rw [h.mem]; simp
end Go.Proofs.YteeopgpgbdhmhaaGreat
namespace Go.Proofs.YteeopgpgbdhmhaaGreat
open Go.RowKit
set_option linter.unusedVariables false
set_option linter.unusedSimpArgs false
attribute [local irreducible] wpList wpO H wpQuiet wpStill Code.wp Exit.then Exit.inBlock bodyPost Code.rounds Calls valid sameKey conflict lessV hless num between
set_option maxRecDepth 4000 in
set_option maxHeartbeats 1500000 in
theorem c65ks (F : Nat) (ih : ∀ (lo : Nat) (v : Value) (xs : List Sg) (w : World), xs.length < F → lo ≤ w.heap.size → xs.length ≤ 1000000 → Ls cS lo w v xs → (∀ x ∈ xs, x.sig.length ≤ 140737488355328) → Calls Tryz.prog 26 [v].toArray w (RetE w fun r w' => ∃ ys, Ow cS lo w.heap.size w' r ys ∧ ys.length ≤ xs.length ∧ IsCan (xs.map Sg.p) (ys.map Sg.p))) (lo : Nat) (v : Value) (xs : List Sg) (w : World) (hF : xs.length < F + 1) (hlo : lo ≤ w.heap.size) (hn : xs.length ≤ 1000000) (h : Ls cS lo w v xs) (hsl : ∀ x ∈ xs, x.sig.length ≤ 140737488355328) : Calls Tryz.prog 26 [v].toArray w (RetE w fun r w' => ∃ ys, Ow cS lo w.heap.size w' r ys ∧ ys.length ≤ xs.length ∧ IsCan (xs.map Sg.p) (ys.map Sg.p)) := by
  refine enter Tryz.func26 Tryz.ntmps26 rfl rfl ?_
  have hE := Ext.refl w
  refine wp_seq ?_
  refine W_region ?_
  refine L (D_v (R_assign rfl) ?_)
  refine S_nil ?_
  refine T_tn ?_
  refine wp_seq ?_
  refine W_region ?_
  refine L (D_v (R_assign rfl) ?_)
  refine S_nil ?_
  refine T_tn ?_
  refine wp_seq ?_
  refine wp_seq ?_
  refine W_region ?_
  refine L (D_v (R_assign rfl) ?_)
  refine S_nil ?_
  refine T_tn ?_
  refine wp_block ?_
  refine W_loop (fun mz g W => ∃ (i : Nat) (B : Bool), mz = xs.length - i ∧ g 0 = v ∧ g 3 = .bool B ∧ g 4 = i64 ((i : Nat) : Int) ∧ Ext w W ∧ (B = true ∨ 2 ≤ xs.length) ∧ i ≤ xs.length ∧ (B = true → ∀ j : Nat, j < i → j + 1 < xs.length → lessV (xs.getD j Sg.zero).vote (xs.getD (j + 1) Sg.zero).vote = true)) ⟨0, true, rfl, rfl, rfl, rfl, hE, (.inl rfl), (Nat.zero_le _), (fun _ j hj => absurd hj (by omega))⟩ ?_
  rintro mz f4 w4l ⟨i, B, hm, q0, q3, q4, hE, hB, hi, hready⟩
  refine wp_seq ?_
  refine wp_seq ?_
  refine W_region ?_
  refine L (D_v (R_move q4) ?_)
  refine L (D_v (R_addN (m := i) (j := 1) rfl rfl (by (try simp only [List.length_take, List.length_drop, List.length_append, List.length_cons, List.length_nil, List.length_replicate, List.length_set, Nm.b_len, be2_len]); omega)) ?_)
  refine L (D_v (R_move q0) ?_)
  refine L (D_v (R_len Tryz.underlying23 rfl (h.ext hE).1) ?_)
  refine L (D_v (R_lssI rfl rfl) ?_)
  refine L (D_v (R_move rfl) ?_)
  refine L (D_g1 rfl rfl (fun hb => R_move q3) ?_)
  refine L (D_v (R_pickA rfl rfl rfl) ?_)
  refine S_nil ?_
  refine T_tn ?_
  refine W_if rfl (fun c1 => ?_) (fun c1 => ?_)
  ·
    have lk : i + 1 < xs.length := by simp at c1; omega
    have hBt : B = true := by simp at c1; exact c1.2
    refine wp_skip ?_
    refine T_tn ?_
    refine wp_seq ?_
    refine wp_block ?_
    refine W_draw mixed (by kernel_rfl) ?_
    refine Q_v (fun w hw => R_move q0) ?_
    refine Q_v (fun w hw => R_move q4) ?_
    refine Q_v (fun w hw => R_elAddr (i := i) Tryz.underlying23 Tryz.sizeOf34 rfl rfl (h.ext (hE.trans hw)).1 (by (try simp only [List.length_take, List.length_drop, List.length_append, List.length_cons, List.length_nil, List.length_replicate, List.length_set, Nm.b_len, be2_len]); omega)) ?_
    refine Q_v (fun w hw => R_fieldEl (k := i * 23) Tryz.runUnderlying34 rfl Tryz.sizeOf31 (h.ext (hE.trans hw)).1 (lel_ltz (C := cS) (s := 23) rfl (by decide) (getD_some (d := Sg.zero) (by (try simp only [List.length_take, List.length_drop, List.length_append, List.length_cons, List.length_nil, List.length_replicate, List.length_set, Nm.b_len, be2_len]); omega))) rfl) ?_
    refine Q_v (fun w hw => R_ldP (C := cS) (i := i) (k := 0) (y := ((xs).getD (i) Sg.zero)) (c := ((((xs).getD (i) Sg.zero)).vote).l) Tryz.isAgg31 Tryz.sizeOf31 rfl (h.ext (hE.trans hw)) (getD_some (d := Sg.zero) (by (try simp only [List.length_take, List.length_drop, List.length_append, List.length_cons, List.length_nil, List.length_replicate, List.length_set, Nm.b_len, be2_len]); omega)) (by decide) (by decide) rfl) ?_
    refine Q_v (fun w hw => R_move q0) ?_
    refine Q_v (fun w hw => R_move q4) ?_
    refine Q_v (fun w hw => R_addN (m := i) (j := 1) rfl rfl (by (try simp only [List.length_take, List.length_drop, List.length_append, List.length_cons, List.length_nil, List.length_replicate, List.length_set, Nm.b_len, be2_len]); omega)) ?_
    refine Q_v (fun w hw => R_elAddr (i := (i + 1)) Tryz.underlying23 Tryz.sizeOf34 rfl rfl (h.ext (hE.trans hw)).1 (by (try simp only [List.length_take, List.length_drop, List.length_append, List.length_cons, List.length_nil, List.length_replicate, List.length_set, Nm.b_len, be2_len]); omega)) ?_
    refine Q_v (fun w hw => R_fieldEl (k := (i + 1) * 23) Tryz.runUnderlying34 rfl Tryz.sizeOf31 (h.ext (hE.trans hw)).1 (lel_ltz (C := cS) (s := 23) rfl (by decide) (getD_some (d := Sg.zero) (by (try simp only [List.length_take, List.length_drop, List.length_append, List.length_cons, List.length_nil, List.length_replicate, List.length_set, Nm.b_len, be2_len]); omega))) rfl) ?_
    refine Q_v (fun w hw => R_ldP (C := cS) (i := (i + 1)) (k := 0) (y := ((xs).getD ((i + 1)) Sg.zero)) (c := ((((xs).getD ((i + 1)) Sg.zero)).vote).l) Tryz.isAgg31 Tryz.sizeOf31 rfl (h.ext (hE.trans hw)) (getD_some (d := Sg.zero) (by (try simp only [List.length_take, List.length_drop, List.length_append, List.length_cons, List.length_nil, List.length_replicate, List.length_set, Nm.b_len, be2_len]); omega)) (by decide) (by decide) rfl) ?_
    refine Q_call (fun w hw => R_callF Tryz.call44 rfl rfl) (fun w hw => c34 ((((xs).getD (i) Sg.zero)).vote) ((((xs).getD ((i + 1)) Sg.zero)).vote) _ ) ?_
    refine Q_v (fun w hw => R_assign rfl) ?_
    refine Q_nil (fun w6_99 e6_99 => ?_)
    replace hE := hE.trans e6_99
    refine T_bn ?_
    refine T_tn ?_
    refine W_region ?_
    refine L (D_v (R_move q4) ?_)
    refine L (D_v (R_addN (m := i) (j := 1) rfl rfl (by (try simp only [List.length_take, List.length_drop, List.length_append, List.length_cons, List.length_nil, List.length_replicate, List.length_set, Nm.b_len, be2_len]); omega)) ?_)
    refine L (D_v (R_assign rfl) ?_)
    refine S_nil ?_
    refine T_tn ?_
    refine ⟨_, _, ?_, rfl, i + 1, _, rfl, q0, rfl, rfl, hE, ?_, ?_, ?_⟩
    all_goals first | omega | exact .inr (by omega) | exact fun h8 j hj hj2 => (Nat.lt_succ_iff_lt_or_eq.1 hj).elim (fun h3 => hready hBt j h3 hj2) (fun h3 => by subst h3; exact h8)
  ·
    have hend : B = true → xs.length ≤ i + 1 := by intro h8; rw [h8] at c1; simp at c1; omega
    refine wp_exit ?_
    refine T_te ?_
    refine T_te ?_
    refine T_be ?_
    refine T_tn ?_
    refine wp_seq ?_
    refine wp_seq ?_
    refine W_region ?_
    refine L (D_v (R_move q3) ?_)
    refine S_nil ?_
    refine T_tn ?_
    refine W_if rfl (fun c2 => ?_) (fun c2 => ?_)
    ·
      have hall : ∀ j : Nat, j + 1 < xs.length → lessV (xs.getD j Sg.zero).vote (xs.getD (j + 1) Sg.zero).vote = true := fun j hj => hready c2 j (by have := hend c2; omega) hj
      refine wp_seq ?_
      refine W_region ?_
      refine L (D_v (R_assign rfl) ?_)
      refine S_nil ?_
      refine T_tn ?_
      refine wp_seq ?_
      refine wp_seq ?_
      refine W_region ?_
      refine L (D_v (R_assign rfl) ?_)
      refine S_nil ?_
      refine T_tn ?_
      refine wp_block ?_
      refine W_loop (fun mz g W => ∃ (i : Nat) (ys : List Sg) (r5 : Value), mz = xs.length - i ∧ g 0 = v ∧ g 5 = r5 ∧ g 6 = i64 ((i : Nat) : Int) ∧ Ext w W ∧ Ow cS lo w.heap.size W r5 ys ∧ i ≤ xs.length ∧ ys.length = i ∧ ys.map Sg.p = (xs.take i).map Sg.p) ⟨0, [], _, rfl, q0, rfl, rfl, hE, (Ow.nil cS lo _ _), (Nat.zero_le _), (by simp), (by simp)⟩ ?_
      rintro mz f9 w9l ⟨i, ys, r5, hm, q0, q5, q6, hE, or5, hi, hl, hcp⟩
      refine wp_seq ?_
      refine wp_seq ?_
      refine W_region ?_
      refine L (D_v (R_move q6) ?_)
      refine L (D_v (R_move q0) ?_)
      refine L (D_v (R_len Tryz.underlying23 rfl (h.ext hE).1) ?_)
      refine L (D_v (R_lssI rfl rfl) ?_)
      refine S_nil ?_
      refine T_tn ?_
      refine W_if rfl (fun c3 => ?_) (fun c3 => ?_)
      ·
        have lk : i < xs.length := by simp at c3; omega
        have hsi := hsl _ (List.getElem_mem (by exact lk))
        have hgd : xs.getD i Sg.zero = xs[i] := by simp [List.getD, lk]
        rw [← hgd] at hsi
        refine wp_skip ?_
        refine T_tn ?_
        refine wp_seq ?_
        refine wp_block ?_
        refine W_held (fun W => Ext w W ∧ True) mixed (fun w11_99 e11_99 => ?_)
        replace hE := hE.trans e11_99
        replace or5 := or5.ext e11_99
        refine H_take (i := 0) rfl (by kernel_rfl) (by kernel_rfl) (by kernel_rfl) rfl (pq_block (pq_then (pq_then (pq_block (pq_then (pq_then pq_body)))))) ⟨hE, trivial⟩ rfl (fun w hw => R_move q5) ?_
        refine H_take (i := 1) rfl (by kernel_rfl) (by kernel_rfl) (by kernel_rfl) rfl (pq_block (pq_then (pq_then (pq_block (pq_then (pq_then pq_body)))))) ⟨hE, trivial⟩ rfl (fun w hw => R_move q0) ?_
        refine H_take (i := 2) rfl (by kernel_rfl) (by kernel_rfl) (by kernel_rfl) rfl (pq_block (pq_then (pq_then (pq_block (pq_then (pq_then pq_body)))))) ⟨hE, trivial⟩ rfl (fun w hw => R_move q6) ?_
        refine H_take (i := 3) rfl (by kernel_rfl) (by kernel_rfl) (by kernel_rfl) rfl (pq_block (pq_then (pq_then (pq_block (pq_then (pq_then pq_body)))))) ⟨hE, trivial⟩ rfl (fun w hw => R_elAddr (i := i) Tryz.underlying23 Tryz.sizeOf34 rfl rfl (h.ext hw.1).1 (by (try simp only [List.length_take, List.length_drop, List.length_append, List.length_cons, List.length_nil, List.length_replicate, List.length_set, Nm.b_len, be2_len]); omega)) ?_
        refine H_take (i := 4) rfl (by kernel_rfl) (by kernel_rfl) (by kernel_rfl) rfl (pq_block (pq_then (pq_then (pq_block (pq_then (pq_then pq_body)))))) ⟨hE, trivial⟩ rfl (fun w hw => R_fieldEl (k := i * 23) Tryz.runUnderlying34 rfl Tryz.sizeOf31 (h.ext hw.1).1 (lel_ltz (C := cS) (s := 23) rfl (by decide) (getD_some (d := Sg.zero) (by (try simp only [List.length_take, List.length_drop, List.length_append, List.length_cons, List.length_nil, List.length_replicate, List.length_set, Nm.b_len, be2_len]); omega))) rfl) ?_
        refine H_take (i := 5) rfl (by kernel_rfl) (by kernel_rfl) (by kernel_rfl) rfl (pq_block (pq_then (pq_then (pq_block (pq_then (pq_then pq_body)))))) ⟨hE, trivial⟩ rfl (fun w hw => R_ldP (C := cS) (i := i) (k := 0) (y := ((xs).getD (i) Sg.zero)) (c := ((((xs).getD (i) Sg.zero)).vote).l) Tryz.isAgg31 Tryz.sizeOf31 rfl (h.ext hw.1) (getD_some (d := Sg.zero) (by (try simp only [List.length_take, List.length_drop, List.length_append, List.length_cons, List.length_nil, List.length_replicate, List.length_set, Nm.b_len, be2_len]); omega)) (by decide) (by decide) rfl) ?_
        refine H_take (i := 6) rfl (by kernel_rfl) (by kernel_rfl) (by kernel_rfl) rfl (pq_block (pq_then (pq_then (pq_block (pq_then (pq_then pq_body)))))) ⟨hE, trivial⟩ rfl (fun w hw => R_move q0) ?_
        refine H_take (i := 7) rfl (by kernel_rfl) (by kernel_rfl) (by kernel_rfl) rfl (pq_block (pq_then (pq_then (pq_block (pq_then (pq_then pq_body)))))) ⟨hE, trivial⟩ rfl (fun w hw => R_move q6) ?_
        refine H_take (i := 8) rfl (by kernel_rfl) (by kernel_rfl) (by kernel_rfl) rfl (pq_block (pq_then (pq_then (pq_block (pq_then (pq_then pq_body)))))) ⟨hE, trivial⟩ rfl (fun w hw => R_elAddr (i := i) Tryz.underlying23 Tryz.sizeOf34 rfl rfl (h.ext hw.1).1 (by (try simp only [List.length_take, List.length_drop, List.length_append, List.length_cons, List.length_nil, List.length_replicate, List.length_set, Nm.b_len, be2_len]); omega)) ?_
        refine H_take (i := 9) rfl (by kernel_rfl) (by kernel_rfl) (by kernel_rfl) rfl (pq_block (pq_then (pq_then (pq_block (pq_then (pq_then pq_body)))))) ⟨hE, trivial⟩ rfl (fun w hw => R_fieldEl (k := i * 23) Tryz.runUnderlying34 rfl Tryz.sizeOf32 (h.ext hw.1).1 (lel_ltz (C := cS) (s := 23) rfl (by decide) (getD_some (d := Sg.zero) (by (try simp only [List.length_take, List.length_drop, List.length_append, List.length_cons, List.length_nil, List.length_replicate, List.length_set, Nm.b_len, be2_len]); omega))) rfl) ?_
        refine H_take (i := 10) rfl (by kernel_rfl) (by kernel_rfl) (by kernel_rfl) rfl (pq_block (pq_then (pq_then (pq_block (pq_then (pq_then pq_body)))))) ⟨hE, trivial⟩ rfl (fun w hw => R_ldC (C := cS) (i := i) (k := 22) (y := ((xs).getD (i) Sg.zero)) (u := (.slice (((xs).getD (i) Sg.zero)).A (((xs).getD (i) Sg.zero)).n (((xs).getD (i) Sg.zero)).c)) Tryz.isAgg32 rfl (h.ext hw.1) (getD_some (d := Sg.zero) (by (try simp only [List.length_take, List.length_drop, List.length_append, List.length_cons, List.length_nil, List.length_replicate, List.length_set, Nm.b_len, be2_len]); omega)) (by decide) rfl) ?_
        have o11_11n := OwnB.nil w11_99 w.heap.size
        refine H_op (i := 11) (by kernel_rfl) rfl rfl (D_appendB elt5 Tryz.underlying32 rfl rfl o11_11n ((h.get (getD_some (d := Sg.zero) (by (try simp only [List.length_take, List.length_drop, List.length_append, List.length_cons, List.length_nil, List.length_replicate, List.length_set, Nm.b_len, be2_len]); omega))).fb (Fb.ext hE)).bs (by (try simp only [List.length_take, List.length_drop, List.length_append, List.length_cons, List.length_nil, List.length_replicate, List.length_set, Nm.b_len, be2_len]); omega) hE.size (fun v11_11 w11_11 o11_11 g11_11 => ?_))
        replace g11_11 := gext g11_11
        replace hE := hE.trans g11_11
        replace or5 := or5.ext g11_11
        refine ⟨⟨hE, trivial⟩, ?_⟩
        have k11_12 : Sg.okf lo w11_11 (mkSg ((((xs).getD (i) Sg.zero)).vote) v11_11 ([] ++ (((xs).getD (i) Sg.zero)).sig)) := mkSg_ok _ (Bf.own o11_11)
        refine H_op (i := 12) (by kernel_rfl) rfl rfl (D_v (R_buildS (vs := [(0, .agg ((((xs).getD (i) Sg.zero)).vote).l.toArray), (1, v11_11)]) (c := (mkSg ((((xs).getD (i) Sg.zero)).vote) v11_11 ([] ++ (((xs).getD (i) Sg.zero)).sig)).l) Tryz.runUnderlying34 places53 Tryz.zeroValue34 (mapp2 rfl rfl) (fill53 _ o11_11.bs)) ⟨⟨hE, trivial⟩, ?_⟩)
        refine H_op (i := 13) (by kernel_rfl) rfl rfl (D_buildL1 (C := cS) (lo := lo) (y := (mkSg ((((xs).getD (i) Sg.zero)).vote) v11_11 ([] ++ (((xs).getD (i) Sg.zero)).sig))) Tryz.underlying23 Tryz.sizeOf34 Tryz.zeroValue34 (mapp1 rfl) (by decide) k11_12 (fun v11_13 w11_13 o11_13 e11_13 => ?_))
        have zr5_v11_13 := own_apart or5.1 o11_13.1
        have zv11_13_r5 := fun k hk hk2 => zr5_v11_13 k hk2 hk
        replace o11_13 := o11_13.low hE.size
        replace hE := hE.trans e11_13
        replace or5 := or5.ext e11_13
        replace o11_11 := o11_11.ext e11_13
        replace k11_12 := k11_12.fb (Fb.ext e11_13)
        refine ⟨⟨hE, trivial⟩, ?_⟩
        refine H_op (i := 14) (by kernel_rfl) rfl rfl (D_appendL elt53 Tryz.underlying23 rfl rfl or5 hlo o11_13.ls (by (try simp only [List.length_take, List.length_drop, List.length_append, List.length_cons, List.length_nil, List.length_replicate, List.length_set, Nm.b_len, be2_len]); omega) (by (try simp only [List.length_take, List.length_drop, List.length_append, List.length_cons, List.length_nil, List.length_replicate, List.length_set, Nm.b_len, be2_len]); omega) hE.size (fun v11_14 w11_14 o11_14 g11_14 f11_14 sv11_14 => ?_))
        have zv11_13_v11_14 : ∀ k, Value.ownBlock v11_13 = some k → Value.ownBlock v11_14 ≠ some k := fun k hk2 hk => (sv11_14 _ hk).elim (fun h => zv11_13_r5 k hk2 h) (fun h => absurd h (Nat.not_le.2 (own_lt o11_13.1 hk2)))
        have zv11_14_v11_13 := fun k hk hk2 => zv11_13_v11_14 k hk2 hk
        replace hE := hE.grown g11_14 (fun k hk => own_ge or5.1 hk)
        replace o11_11 := o11_11.grown g11_14 (own_ne o11_11 or5.1 rfl)
        replace o11_13 := o11_13.grown g11_14 (zv11_13_r5) f11_14
        replace k11_12 := k11_12.fb f11_14
        refine ⟨⟨hE, trivial⟩, ?_⟩
        refine H_take (i := 15) rfl (by kernel_rfl) (by kernel_rfl) (by kernel_rfl) rfl (pq_block (pq_then (pq_then (pq_block (pq_then (pq_then pq_body)))))) ⟨hE, trivial⟩ rfl (fun w hw => R_assign rfl) ?_
        refine H_done (by kernel_rfl) ?_
        refine T_bn ?_
        refine T_tn ?_
        refine W_region ?_
        refine L (D_v (R_move q6) ?_)
        refine L (D_v (R_addN (m := i) (j := 1) rfl rfl (by (try simp only [List.length_take, List.length_drop, List.length_append, List.length_cons, List.length_nil, List.length_replicate, List.length_set, Nm.b_len, be2_len]); omega)) ?_)
        refine L (D_v (R_assign rfl) ?_)
        refine S_nil ?_
        refine T_tn ?_
        refine ⟨_, _, ?_, rfl, i + 1, _, _, rfl, q0, rfl, rfl, hE, o11_14, ?_, ?_, ?_⟩
        all_goals first | omega | (simp only [List.length_append, List.length_cons, List.length_nil]; omega) | exact copy_next hcp lk rfl
      ·
        obtain rfl : i = xs.length := by have h9 := of_decide_eq_false c3; omega
        refine wp_exit ?_
        refine T_te ?_
        refine T_te ?_
        refine T_be ?_
        refine T_tn ?_
        refine wp_seq ?_
        refine W_region ?_
        refine L (D_v (R_move q5) ?_)
        refine L (D_v (R_assign rfl) ?_)
        refine S_nil ?_
        refine T_tn ?_
        refine wp_ret ?_
        refine T_tr ?_
        refine ret1 (v := r5) rfl rfl ⟨_, rfl, hE, ?_⟩
        first | exact ⟨_, or5, by first | omega | (simp only [List.length_append, List.length_nil] at *; omega), can_of_asc (by rw [List.take_of_length_le (Nat.le_refl _)] at hcp; exact hcp) hall⟩ | exact ⟨_, or5, by first | omega | (simp only [List.length_append, List.length_nil] at *; omega), halves _ _ (hM.fin l00.1 l00.2)⟩
    ·
      have h2 : 2 ≤ xs.length := hB.resolve_left (by simp [c2])
      refine wp_skip ?_
      refine T_tn ?_
      refine wp_seq ?_
      refine W_held (fun W => Ext w W ∧ True) mixed (fun w7_99 e7_99 => ?_)
      replace hE := hE.trans e7_99
      refine H_take (i := 0) rfl (by kernel_rfl) (by kernel_rfl) (by kernel_rfl) rfl (pq_then pq_body) ⟨hE, trivial⟩ rfl (fun w hw => R_move q0) ?_
      refine H_take (i := 1) rfl (by kernel_rfl) (by kernel_rfl) (by kernel_rfl) rfl (pq_then pq_body) ⟨hE, trivial⟩ rfl (fun w hw => R_move q0) ?_
      refine H_take (i := 2) rfl (by kernel_rfl) (by kernel_rfl) (by kernel_rfl) rfl (pq_then pq_body) ⟨hE, trivial⟩ rfl (fun w hw => R_len Tryz.underlying23 rfl (h.ext hw.1).1) ?_
      refine H_take (i := 3) rfl (by kernel_rfl) (by kernel_rfl) (by kernel_rfl) rfl (pq_then pq_body) ⟨hE, trivial⟩ rfl (fun w hw => R_quoN (m := (xs).length) (j := 2) rfl rfl (by decide) (by (try simp only [List.length_take, List.length_drop, List.length_append, List.length_cons, List.length_nil, List.length_replicate, List.length_set, Nm.b_len, be2_len]); omega)) ?_
      refine H_take (i := 4) rfl (by kernel_rfl) (by kernel_rfl) (by kernel_rfl) rfl (pq_then pq_body) ⟨hE, trivial⟩ rfl (fun w hw => R_sliceHi (j := ((xs).length / 2)) Tryz.underlying23 Tryz.sizeOf34 rfl rfl (h.ext hw.1).1 (by (try simp only [List.length_take, List.length_drop, List.length_append, List.length_cons, List.length_nil, List.length_replicate, List.length_set, Nm.b_len, be2_len]); omega)) ?_
      refine H_take (i := 6) rfl (by kernel_rfl) (by kernel_rfl) (by kernel_rfl) rfl (pq_then pq_body) ⟨hE, trivial⟩ rfl (fun w hw => R_move q0) ?_
      refine H_take (i := 7) rfl (by kernel_rfl) (by kernel_rfl) (by kernel_rfl) rfl (pq_then pq_body) ⟨hE, trivial⟩ rfl (fun w hw => R_move q0) ?_
      refine H_take (i := 8) rfl (by kernel_rfl) (by kernel_rfl) (by kernel_rfl) rfl (pq_then pq_body) ⟨hE, trivial⟩ rfl (fun w hw => R_len Tryz.underlying23 rfl (h.ext hw.1).1) ?_
      refine H_take (i := 9) rfl (by kernel_rfl) (by kernel_rfl) (by kernel_rfl) rfl (pq_then pq_body) ⟨hE, trivial⟩ rfl (fun w hw => R_quoN (m := (xs).length) (j := 2) rfl rfl (by decide) (by (try simp only [List.length_take, List.length_drop, List.length_append, List.length_cons, List.length_nil, List.length_replicate, List.length_set, Nm.b_len, be2_len]); omega)) ?_
      refine H_take (i := 10) rfl (by kernel_rfl) (by kernel_rfl) (by kernel_rfl) rfl (pq_then pq_body) ⟨hE, trivial⟩ rfl (fun w hw => R_sliceLo (i := ((xs).length / 2)) Tryz.underlying23 Tryz.sizeOf34 rfl rfl (h.ext hw.1).1 (by (try simp only [List.length_take, List.length_drop, List.length_append, List.length_cons, List.length_nil, List.length_replicate, List.length_set, Nm.b_len, be2_len]); omega)) ?_
      refine H_op (i := 5) (by kernel_rfl) rfl rfl (D_callE (R_callF Tryz.call26 rfl rfl) (ih lo (cutV v (Cd.sz cS) (0) (((xs).length / 2))) ((((xs).drop (0)).take (((xs).length / 2) - 0))) _ (by simp only [List.length_take, List.length_drop]; omega) (Nat.le_trans hlo hE.size) (by simp only [List.length_take, List.length_drop]; omega) ((h.ext hE).cut (by (try simp only [List.length_take, List.length_drop, List.length_append, List.length_cons, List.length_nil, List.length_replicate, List.length_set, Nm.b_len, be2_len]); omega) (by (try simp only [List.length_take, List.length_drop, List.length_append, List.length_cons, List.length_nil, List.length_replicate, List.length_set, Nm.b_len, be2_len]); omega)) (fun x hx => hsl x (List.mem_of_mem_drop (List.mem_of_mem_take hx)))) (fun v7_5 w7_5 e7_5 p7_5 => ?_))
      obtain ⟨y7_5, o7_5, n7_5, cn7_5⟩ := p7_5
      replace o7_5 := o7_5.low hE.size
      replace hE := hE.trans e7_5
      refine ⟨⟨hE, trivial⟩, ?_⟩
      refine H_op (i := 11) (by kernel_rfl) rfl rfl (D_callE (R_callF Tryz.call26 rfl rfl) (ih lo (cutV v (Cd.sz cS) (((xs).length / 2)) ((xs).length)) ((((xs).drop (((xs).length / 2))).take ((xs).length - ((xs).length / 2)))) _ (by simp only [List.length_take, List.length_drop]; omega) (Nat.le_trans hlo hE.size) (by simp only [List.length_take, List.length_drop]; omega) ((h.ext hE).cut (by (try simp only [List.length_take, List.length_drop, List.length_append, List.length_cons, List.length_nil, List.length_replicate, List.length_set, Nm.b_len, be2_len]); omega) (by (try simp only [List.length_take, List.length_drop, List.length_append, List.length_cons, List.length_nil, List.length_replicate, List.length_set, Nm.b_len, be2_len]); omega)) (fun x hx => hsl x (List.mem_of_mem_drop (List.mem_of_mem_take hx)))) (fun v7_11 w7_11 e7_11 p7_11 => ?_))
      obtain ⟨y7_11, o7_11, n7_11, cn7_11⟩ := p7_11
      have zv7_5_v7_11 := own_apart o7_5.1 o7_11.1
      have zv7_11_v7_5 := fun k hk hk2 => zv7_5_v7_11 k hk2 hk
      replace o7_11 := o7_11.low hE.size
      replace hE := hE.trans e7_11
      replace o7_5 := o7_5.ext e7_11
      refine ⟨⟨hE, trivial⟩, ?_⟩
      refine H_take (i := 12) rfl (by kernel_rfl) (by kernel_rfl) (by kernel_rfl) rfl (pq_then pq_body) ⟨hE, trivial⟩ rfl (fun w hw => R_assign rfl) ?_
      refine H_take (i := 13) rfl (by kernel_rfl) (by kernel_rfl) (by kernel_rfl) rfl (pq_then pq_body) ⟨hE, trivial⟩ rfl (fun w hw => R_assign rfl) ?_
      refine H_done (by kernel_rfl) ?_
      refine T_tn ?_
      refine wp_seq ?_
      refine W_region ?_
      refine L (D_v (R_assign rfl) ?_)
      refine S_nil ?_
      refine T_tn ?_
      refine wp_seq ?_
      refine wp_block ?_
      refine W_loop (fun mz g W => ∃ (va : Value) (ya : List Sg) (vb : Value) (yb : List Sg) (zs : List Sg) (r9 : Value), mz = ya.length + yb.length ∧ g 7 = va ∧ g 8 = vb ∧ g 9 = r9 ∧ Ext w W ∧ Ow cS lo w.heap.size W v7_5 y7_5 ∧ Ow cS lo w.heap.size W v7_11 y7_11 ∧ Ow cS lo w.heap.size W r9 zs ∧ (∀ k, Value.ownBlock v7_5 = some k → Value.ownBlock r9 ≠ some k) ∧ (∀ k, Value.ownBlock v7_11 = some k → Value.ownBlock r9 ≠ some k) ∧ CutOf cS v7_5 y7_5 va ya ∧ CutOf cS v7_11 y7_11 vb yb ∧ zs.length + ya.length + yb.length ≤ xs.length ∧ Ms (y7_5 ++ y7_11) zs ya yb) ⟨v7_5, y7_5, v7_11, y7_11, [], _, rfl, rfl, rfl, rfl, hE, o7_5, o7_11, (Ow.nil cS lo _ _), (fun k _ h => nomatch (show (none : Option Nat) = some _ from h)), (fun k _ h => nomatch (show (none : Option Nat) = some _ from h)), (CutOf.refl _ _ _), (CutOf.refl _ _ _), (by simp only [List.length_nil, List.length_take, List.length_drop] at *; omega), (Ms.start cn7_5 cn7_11)⟩ ?_
      rintro mz f9 w9l ⟨va, ya, vb, yb, zs, r9, hm, q7, q8, q9, hE, ov7_5, ov7_11, or9, zv7_5_r9, zv7_11_r9, ca, cb, hz, hM⟩
      refine wp_seq ?_
      refine wp_seq ?_
      refine W_region ?_
      refine L (D_v (R_move q7) ?_)
      refine L (D_v (R_len Tryz.underlying23 rfl (ov7_5.ls.via ca).1) ?_)
      refine L (D_v (R_gtrI rfl rfl) ?_)
      refine L (D_v (R_move rfl) ?_)
      refine L (D_g1 rfl rfl (fun hb => R_move q8) ?_)
      refine L (D_g1 rfl rfl (fun hb => R_len Tryz.underlying23 (cgE hb) (ov7_11.ls.via cb).1) ?_)
      refine L (D_g1 rfl rfl (fun hb => R_gtrI (cgE hb) rfl) ?_)
      refine L (D_v (R_pickO rfl rfl rfl) ?_)
      refine S_nil ?_
      refine T_tn ?_
      refine W_if rfl (fun c3 => ?_) (fun c3 => ?_)
      ·
        have l12 : 0 < ya.length ∨ 0 < yb.length := by (revert c3; generalize ya.length = m9; generalize yb.length = k9; intro h8; simp at h8; omega)
        refine wp_skip ?_
        refine T_tn ?_
        refine wp_block ?_
        refine wp_block ?_
        refine wp_seq ?_
        refine W_draw mixed (by kernel_rfl) ?_
        refine Q_v (fun w hw => R_move q8) ?_
        refine Q_v (fun w hw => R_len Tryz.underlying23 rfl ((ov7_11.ls.ext hw).via cb).1) ?_
        refine Q_v (fun w hw => R_eqlI rfl rfl) ?_
        refine Q_v (fun w hw => R_move rfl) ?_
        refine Q_g1 rfl rfl (fun hb w hw => R_move q7) ?_
        refine Q_g1 rfl rfl (fun hb w hw => R_len Tryz.underlying23 (cgE hb) ((ov7_5.ls.ext hw).via ca).1) ?_
        refine Q_g1 rfl rfl (fun hb w hw => R_gtrI (cgE hb) rfl) ?_
        refine Q_g1 rfl rfl (fun hb w hw => R_move (cgE hb)) ?_
        refine Q_g2 rfl rfl (fun hg hb w hw => R_move q7) ?_
        refine Q_g2 rfl rfl (fun hg hb w hw => R_elAddr (i := 0) Tryz.underlying23 Tryz.sizeOf34 (cgA hg hb) rfl ((ov7_5.ls.ext hw).via ca).1 (by first | omega | (revert hb; generalize ya.length = m9; generalize yb.length = k9; intro hb; simp at hb; omega) | (revert hb hg; generalize ya.length = m9; generalize yb.length = k9; intro hb hg; simp at hb hg; omega))) ?_
        refine Q_g2 rfl rfl (fun hg hb w hw => R_fieldEl (k := 0 * 23) Tryz.runUnderlying34 rfl Tryz.sizeOf31 ((ov7_5.ls.ext hw).via ca).1 (lel_ltz (C := cS) (s := 23) rfl (by decide) (getD_some (d := Sg.zero) (by first | omega | (revert hb; generalize ya.length = m9; generalize yb.length = k9; intro hb; simp at hb; omega) | (revert hb hg; generalize ya.length = m9; generalize yb.length = k9; intro hb hg; simp at hb hg; omega)))) (cgA hg hb)) ?_
        refine Q_g2 rfl rfl (fun hg hb w hw => R_ldP (C := cS) (i := 0) (k := 0) (y := ((ya).getD (0) Sg.zero)) (c := ((((ya).getD (0) Sg.zero)).vote).l) Tryz.isAgg31 Tryz.sizeOf31 (cgA hg hb) ((ov7_5.ls.ext hw).via ca) (getD_some (d := Sg.zero) (by first | omega | (revert hb; generalize ya.length = m9; generalize yb.length = k9; intro hb; simp at hb; omega) | (revert hb hg; generalize ya.length = m9; generalize yb.length = k9; intro hb hg; simp at hb hg; omega))) (by decide) (by decide) rfl) ?_
        refine Q_g2 rfl rfl (fun hg hb w hw => R_move q8) ?_
        refine Q_g2 rfl rfl (fun hg hb w hw => R_elAddr (i := 0) Tryz.underlying23 Tryz.sizeOf34 (cgA hg hb) rfl ((ov7_11.ls.ext hw).via cb).1 (by first | omega | (revert hb; generalize ya.length = m9; generalize yb.length = k9; intro hb; simp at hb; omega) | (revert hb hg; generalize ya.length = m9; generalize yb.length = k9; intro hb hg; simp at hb hg; omega))) ?_
        refine Q_g2 rfl rfl (fun hg hb w hw => R_fieldEl (k := 0 * 23) Tryz.runUnderlying34 rfl Tryz.sizeOf31 ((ov7_11.ls.ext hw).via cb).1 (lel_ltz (C := cS) (s := 23) rfl (by decide) (getD_some (d := Sg.zero) (by first | omega | (revert hb; generalize ya.length = m9; generalize yb.length = k9; intro hb; simp at hb; omega) | (revert hb hg; generalize ya.length = m9; generalize yb.length = k9; intro hb hg; simp at hb hg; omega)))) (cgA hg hb)) ?_
        refine Q_g2 rfl rfl (fun hg hb w hw => R_ldP (C := cS) (i := 0) (k := 0) (y := ((yb).getD (0) Sg.zero)) (c := ((((yb).getD (0) Sg.zero)).vote).l) Tryz.isAgg31 Tryz.sizeOf31 (cgA hg hb) ((ov7_11.ls.ext hw).via cb) (getD_some (d := Sg.zero) (by first | omega | (revert hb; generalize ya.length = m9; generalize yb.length = k9; intro hb; simp at hb; omega) | (revert hb hg; generalize ya.length = m9; generalize yb.length = k9; intro hb hg; simp at hb hg; omega))) (by decide) (by decide) rfl) ?_
        refine Q_gc2 rfl rfl (fun hg hb w hw => R_callF Tryz.call44 (mapv2 (cgA hg hb) (cgA hg hb)) rfl) (fun hg hb w hw => c34 ((((ya).getD (0) Sg.zero)).vote) ((((yb).getD (0) Sg.zero)).vote) _ ) ?_
        refine Q_g1 rfl rfl (fun hb w hw => R_pickA (cgE hb) (cgD hb) rfl) ?_
        refine Q_v (fun w hw => R_pickO rfl rfl rfl) ?_
        refine Q_v (fun w hw => R_assign rfl) ?_
        refine Q_nil (fun w11_99 e11_99 => ?_)
        replace hE := hE.trans e11_99
        replace ov7_5 := ov7_5.ext e11_99
        replace ov7_11 := ov7_11.ext e11_99
        replace or9 := or9.ext e11_99
        refine T_tn ?_
        refine W_if rfl (fun c4 => ?_) (fun c4 => ?_)
        ·
          have hcA := condA c4
          have la : 0 < ya.length := by (revert c4 l12; generalize ya.length = m9; generalize yb.length = k9; intro h9 h8; simp at h8; omega)
          refine wp_seq ?_
          refine W_region ?_
          refine L (D_v (R_move q9) ?_)
          refine L (D_v (R_move q7) ?_)
          refine L (D_v (R_elAddr (i := 0) Tryz.underlying23 Tryz.sizeOf34 rfl rfl (ov7_5.ls.via ca).1 (by first | omega | (revert hb; generalize ya.length = m9; generalize yb.length = k9; intro hb; simp at hb; omega) | (revert hb hg; generalize ya.length = m9; generalize yb.length = k9; intro hb hg; simp at hb hg; omega))) ?_)
          have k12_3 := ((ov7_5.ls.via ca)).get (i := 0) (getD_some (d := Sg.zero) (by first | omega | (revert hb; generalize ya.length = m9; generalize yb.length = k9; intro hb; simp at hb; omega) | (revert hb hg; generalize ya.length = m9; generalize yb.length = k9; intro hb hg; simp at hb hg; omega)))
          refine L (D_v (R_ldL (C := cS) (i := 0) (y := ((ya).getD (0) Sg.zero)) Tryz.isAgg34 Tryz.sizeOf34 rfl (ov7_5.ls.via ca) (getD_some (d := Sg.zero) (by first | omega | (revert hb; generalize ya.length = m9; generalize yb.length = k9; intro hb; simp at hb; omega) | (revert hb hg; generalize ya.length = m9; generalize yb.length = k9; intro hb hg; simp at hb hg; omega)))) ?_)
          refine L (D_buildL1 (C := cS) (lo := lo) (y := ((ya).getD (0) Sg.zero)) Tryz.underlying23 Tryz.sizeOf34 Tryz.zeroValue34 (mapp1 rfl) (by decide) k12_3 (fun v12_4 w12_4 o12_4 e12_4 => ?_))
          have zv7_5_v12_4 := own_apart ov7_5.1 o12_4.1
          have zv12_4_v7_5 := fun k hk hk2 => zv7_5_v12_4 k hk2 hk
          have zv7_11_v12_4 := own_apart ov7_11.1 o12_4.1
          have zv12_4_v7_11 := fun k hk hk2 => zv7_11_v12_4 k hk2 hk
          have zr9_v12_4 := own_apart or9.1 o12_4.1
          have zv12_4_r9 := fun k hk hk2 => zr9_v12_4 k hk2 hk
          replace o12_4 := o12_4.low hE.size
          replace hE := hE.trans e12_4
          replace ov7_5 := ov7_5.ext e12_4
          replace ov7_11 := ov7_11.ext e12_4
          replace or9 := or9.ext e12_4
          replace k12_3 := k12_3.fb (Fb.ext e12_4)
          refine L (D_appendL elt53 Tryz.underlying23 rfl rfl or9 hlo o12_4.ls (by (try simp only [List.length_take, List.length_drop, List.length_append, List.length_cons, List.length_nil, List.length_replicate, List.length_set, Nm.b_len, be2_len]); omega) (by (try simp only [List.length_take, List.length_drop, List.length_append, List.length_cons, List.length_nil, List.length_replicate, List.length_set, Nm.b_len, be2_len]); omega) hE.size (fun v12_5 w12_5 o12_5 g12_5 f12_5 sv12_5 => ?_))
          have zv7_5_v12_5 : ∀ k, Value.ownBlock v7_5 = some k → Value.ownBlock v12_5 ≠ some k := fun k hk2 hk => (sv12_5 _ hk).elim (fun h => zv7_5_r9 k hk2 h) (fun h => absurd h (Nat.not_le.2 (own_lt ov7_5.1 hk2)))
          have zv12_5_v7_5 := fun k hk hk2 => zv7_5_v12_5 k hk2 hk
          have zv7_11_v12_5 : ∀ k, Value.ownBlock v7_11 = some k → Value.ownBlock v12_5 ≠ some k := fun k hk2 hk => (sv12_5 _ hk).elim (fun h => zv7_11_r9 k hk2 h) (fun h => absurd h (Nat.not_le.2 (own_lt ov7_11.1 hk2)))
          have zv12_5_v7_11 := fun k hk hk2 => zv7_11_v12_5 k hk2 hk
          have zv12_4_v12_5 : ∀ k, Value.ownBlock v12_4 = some k → Value.ownBlock v12_5 ≠ some k := fun k hk2 hk => (sv12_5 _ hk).elim (fun h => zv12_4_r9 k hk2 h) (fun h => absurd h (Nat.not_le.2 (own_lt o12_4.1 hk2)))
          have zv12_5_v12_4 := fun k hk hk2 => zv12_4_v12_5 k hk2 hk
          replace hE := hE.grown g12_5 (fun k hk => own_ge or9.1 hk)
          replace ov7_5 := ov7_5.grown g12_5 (zv7_5_r9) f12_5
          replace ov7_11 := ov7_11.grown g12_5 (zv7_11_r9) f12_5
          replace o12_4 := o12_4.grown g12_5 (zv12_4_r9) f12_5
          replace k12_3 := k12_3.fb f12_5
          refine L (D_v (R_assign rfl) ?_)
          refine S_nil ?_
          refine T_tn ?_
          refine W_region ?_
          refine L (D_v (R_move q7) ?_)
          refine L (D_v (R_sliceLo (i := 1) Tryz.underlying23 Tryz.sizeOf34 rfl rfl (ov7_5.ls.via ca).1 (by (try simp only [List.length_take, List.length_drop, List.length_append, List.length_cons, List.length_nil, List.length_replicate, List.length_set, Nm.b_len, be2_len]); omega)) ?_)
          refine L (D_v (R_assign rfl) ?_)
          refine S_nil ?_
          refine T_bn ?_
          refine T_bn ?_
          refine T_tn ?_
          refine ⟨_, _, ?_, rfl, (cutV va (Cd.sz cS) (1) ((ya).length)), (((ya).drop (1)).take ((ya).length - 1)), vb, yb, _, _, rfl, rfl, q8, rfl, hE, ov7_5, ov7_11, o12_5, zv7_5_v12_5, zv7_11_v12_5, ?_, ?_, ?_, ?_⟩
          all_goals first | omega | exact ca | exact cb | exact ca.cut (by omega) (Nat.le_refl _) | exact cb.cut (by omega) (Nat.le_refl _) | (simp only [List.length_append, List.length_cons, List.length_nil, List.length_take, List.length_drop]; omega) | exact hM.takeA la hcA | exact hM.takeB lb hcB | exact hM.dropB la lb hve hle | exact hM.dropA la lb hve hle
        ·
          obtain ⟨lb, hcA⟩ := condA0 c4
          refine wp_seq ?_
          refine W_draw mixed (by kernel_rfl) ?_
          refine Q_v (fun w hw => R_move q7) ?_
          refine Q_v (fun w hw => R_len Tryz.underlying23 rfl ((ov7_5.ls.ext hw).via ca).1) ?_
          refine Q_v (fun w hw => R_eqlI rfl rfl) ?_
          refine Q_v (fun w hw => R_move rfl) ?_
          refine Q_g1 rfl rfl (fun hb w hw => R_move q8) ?_
          refine Q_g1 rfl rfl (fun hb w hw => R_elAddr (i := 0) Tryz.underlying23 Tryz.sizeOf34 (cgE hb) rfl ((ov7_11.ls.ext hw).via cb).1 (by first | omega | (revert hb; generalize ya.length = m9; generalize yb.length = k9; intro hb; simp at hb; omega) | (revert hb hg; generalize ya.length = m9; generalize yb.length = k9; intro hb hg; simp at hb hg; omega))) ?_
          refine Q_g1 rfl rfl (fun hb w hw => R_fieldEl (k := 0 * 23) Tryz.runUnderlying34 rfl Tryz.sizeOf31 ((ov7_11.ls.ext hw).via cb).1 (lel_ltz (C := cS) (s := 23) rfl (by decide) (getD_some (d := Sg.zero) (by first | omega | (revert hb; generalize ya.length = m9; generalize yb.length = k9; intro hb; simp at hb; omega) | (revert hb hg; generalize ya.length = m9; generalize yb.length = k9; intro hb hg; simp at hb hg; omega)))) (cgE hb)) ?_
          refine Q_g1 rfl rfl (fun hb w hw => R_ldP (C := cS) (i := 0) (k := 0) (y := ((yb).getD (0) Sg.zero)) (c := ((((yb).getD (0) Sg.zero)).vote).l) Tryz.isAgg31 Tryz.sizeOf31 (cgE hb) ((ov7_11.ls.ext hw).via cb) (getD_some (d := Sg.zero) (by first | omega | (revert hb; generalize ya.length = m9; generalize yb.length = k9; intro hb; simp at hb; omega) | (revert hb hg; generalize ya.length = m9; generalize yb.length = k9; intro hb hg; simp at hb hg; omega))) (by decide) (by decide) rfl) ?_
          refine Q_g1 rfl rfl (fun hb w hw => R_move q7) ?_
          refine Q_g1 rfl rfl (fun hb w hw => R_elAddr (i := 0) Tryz.underlying23 Tryz.sizeOf34 (cgE hb) rfl ((ov7_5.ls.ext hw).via ca).1 (by first | omega | (revert hb; generalize ya.length = m9; generalize yb.length = k9; intro hb; simp at hb; omega) | (revert hb hg; generalize ya.length = m9; generalize yb.length = k9; intro hb hg; simp at hb hg; omega))) ?_
          refine Q_g1 rfl rfl (fun hb w hw => R_fieldEl (k := 0 * 23) Tryz.runUnderlying34 rfl Tryz.sizeOf31 ((ov7_5.ls.ext hw).via ca).1 (lel_ltz (C := cS) (s := 23) rfl (by decide) (getD_some (d := Sg.zero) (by first | omega | (revert hb; generalize ya.length = m9; generalize yb.length = k9; intro hb; simp at hb; omega) | (revert hb hg; generalize ya.length = m9; generalize yb.length = k9; intro hb hg; simp at hb hg; omega)))) (cgE hb)) ?_
          refine Q_g1 rfl rfl (fun hb w hw => R_ldP (C := cS) (i := 0) (k := 0) (y := ((ya).getD (0) Sg.zero)) (c := ((((ya).getD (0) Sg.zero)).vote).l) Tryz.isAgg31 Tryz.sizeOf31 (cgE hb) ((ov7_5.ls.ext hw).via ca) (getD_some (d := Sg.zero) (by first | omega | (revert hb; generalize ya.length = m9; generalize yb.length = k9; intro hb; simp at hb; omega) | (revert hb hg; generalize ya.length = m9; generalize yb.length = k9; intro hb hg; simp at hb hg; omega))) (by decide) (by decide) rfl) ?_
          refine Q_gc1 rfl rfl (fun hb w hw => R_callF Tryz.call44 (mapv2 (cgE hb) (cgE hb)) rfl) (fun hb w hw => c34 ((((yb).getD (0) Sg.zero)).vote) ((((ya).getD (0) Sg.zero)).vote) _ ) ?_
          refine Q_v (fun w hw => R_pickO rfl rfl rfl) ?_
          refine Q_v (fun w hw => R_assign rfl) ?_
          refine Q_nil (fun w12_99 e12_99 => ?_)
          replace hE := hE.trans e12_99
          replace ov7_5 := ov7_5.ext e12_99
          replace ov7_11 := ov7_11.ext e12_99
          replace or9 := or9.ext e12_99
          refine T_tn ?_
          refine W_if rfl (fun c5 => ?_) (fun c5 => ?_)
          ·
            have hcB := condB c5
            refine wp_seq ?_
            refine W_region ?_
            refine L (D_v (R_move q9) ?_)
            refine L (D_v (R_move q8) ?_)
            refine L (D_v (R_elAddr (i := 0) Tryz.underlying23 Tryz.sizeOf34 rfl rfl (ov7_11.ls.via cb).1 (by first | omega | (revert hb; generalize ya.length = m9; generalize yb.length = k9; intro hb; simp at hb; omega) | (revert hb hg; generalize ya.length = m9; generalize yb.length = k9; intro hb hg; simp at hb hg; omega))) ?_)
            have k13_3 := ((ov7_11.ls.via cb)).get (i := 0) (getD_some (d := Sg.zero) (by first | omega | (revert hb; generalize ya.length = m9; generalize yb.length = k9; intro hb; simp at hb; omega) | (revert hb hg; generalize ya.length = m9; generalize yb.length = k9; intro hb hg; simp at hb hg; omega)))
            refine L (D_v (R_ldL (C := cS) (i := 0) (y := ((yb).getD (0) Sg.zero)) Tryz.isAgg34 Tryz.sizeOf34 rfl (ov7_11.ls.via cb) (getD_some (d := Sg.zero) (by first | omega | (revert hb; generalize ya.length = m9; generalize yb.length = k9; intro hb; simp at hb; omega) | (revert hb hg; generalize ya.length = m9; generalize yb.length = k9; intro hb hg; simp at hb hg; omega)))) ?_)
            refine L (D_buildL1 (C := cS) (lo := lo) (y := ((yb).getD (0) Sg.zero)) Tryz.underlying23 Tryz.sizeOf34 Tryz.zeroValue34 (mapp1 rfl) (by decide) k13_3 (fun v13_4 w13_4 o13_4 e13_4 => ?_))
            have zv7_5_v13_4 := own_apart ov7_5.1 o13_4.1
            have zv13_4_v7_5 := fun k hk hk2 => zv7_5_v13_4 k hk2 hk
            have zv7_11_v13_4 := own_apart ov7_11.1 o13_4.1
            have zv13_4_v7_11 := fun k hk hk2 => zv7_11_v13_4 k hk2 hk
            have zr9_v13_4 := own_apart or9.1 o13_4.1
            have zv13_4_r9 := fun k hk hk2 => zr9_v13_4 k hk2 hk
            replace o13_4 := o13_4.low hE.size
            replace hE := hE.trans e13_4
            replace ov7_5 := ov7_5.ext e13_4
            replace ov7_11 := ov7_11.ext e13_4
            replace or9 := or9.ext e13_4
            replace k13_3 := k13_3.fb (Fb.ext e13_4)
            refine L (D_appendL elt53 Tryz.underlying23 rfl rfl or9 hlo o13_4.ls (by (try simp only [List.length_take, List.length_drop, List.length_append, List.length_cons, List.length_nil, List.length_replicate, List.length_set, Nm.b_len, be2_len]); omega) (by (try simp only [List.length_take, List.length_drop, List.length_append, List.length_cons, List.length_nil, List.length_replicate, List.length_set, Nm.b_len, be2_len]); omega) hE.size (fun v13_5 w13_5 o13_5 g13_5 f13_5 sv13_5 => ?_))
            have zv7_5_v13_5 : ∀ k, Value.ownBlock v7_5 = some k → Value.ownBlock v13_5 ≠ some k := fun k hk2 hk => (sv13_5 _ hk).elim (fun h => zv7_5_r9 k hk2 h) (fun h => absurd h (Nat.not_le.2 (own_lt ov7_5.1 hk2)))
            have zv13_5_v7_5 := fun k hk hk2 => zv7_5_v13_5 k hk2 hk
            have zv7_11_v13_5 : ∀ k, Value.ownBlock v7_11 = some k → Value.ownBlock v13_5 ≠ some k := fun k hk2 hk => (sv13_5 _ hk).elim (fun h => zv7_11_r9 k hk2 h) (fun h => absurd h (Nat.not_le.2 (own_lt ov7_11.1 hk2)))
            have zv13_5_v7_11 := fun k hk hk2 => zv7_11_v13_5 k hk2 hk
            have zv13_4_v13_5 : ∀ k, Value.ownBlock v13_4 = some k → Value.ownBlock v13_5 ≠ some k := fun k hk2 hk => (sv13_5 _ hk).elim (fun h => zv13_4_r9 k hk2 h) (fun h => absurd h (Nat.not_le.2 (own_lt o13_4.1 hk2)))
            have zv13_5_v13_4 := fun k hk hk2 => zv13_4_v13_5 k hk2 hk
            replace hE := hE.grown g13_5 (fun k hk => own_ge or9.1 hk)
            replace ov7_5 := ov7_5.grown g13_5 (zv7_5_r9) f13_5
            replace ov7_11 := ov7_11.grown g13_5 (zv7_11_r9) f13_5
            replace o13_4 := o13_4.grown g13_5 (zv13_4_r9) f13_5
            replace k13_3 := k13_3.fb f13_5
            refine L (D_v (R_assign rfl) ?_)
            refine S_nil ?_
            refine T_tn ?_
            refine W_region ?_
            refine L (D_v (R_move q8) ?_)
            refine L (D_v (R_sliceLo (i := 1) Tryz.underlying23 Tryz.sizeOf34 rfl rfl (ov7_11.ls.via cb).1 (by (try simp only [List.length_take, List.length_drop, List.length_append, List.length_cons, List.length_nil, List.length_replicate, List.length_set, Nm.b_len, be2_len]); omega)) ?_)
            refine L (D_v (R_assign rfl) ?_)
            refine S_nil ?_
            refine T_bn ?_
            refine T_bn ?_
            refine T_tn ?_
            refine ⟨_, _, ?_, rfl, va, ya, (cutV vb (Cd.sz cS) (1) ((yb).length)), (((yb).drop (1)).take ((yb).length - 1)), _, _, rfl, q7, rfl, rfl, hE, ov7_5, ov7_11, o13_5, zv7_5_v13_5, zv7_11_v13_5, ?_, ?_, ?_, ?_⟩
            all_goals first | omega | exact ca | exact cb | exact ca.cut (by omega) (Nat.le_refl _) | exact cb.cut (by omega) (Nat.le_refl _) | (simp only [List.length_append, List.length_cons, List.length_nil, List.length_take, List.length_drop]; omega) | exact hM.takeA la hcA | exact hM.takeB lb hcB | exact hM.dropB la lb hve hle | exact hM.dropA la lb hve hle
          ·
            obtain ⟨la, hcB⟩ := condB0 c5
            have hve := vote_eq (hcA la) hcB
            have ka := ((ov7_5.ls.via ca)).get (i := 0) (getD_some (d := Sg.zero) la)
            have kb := ((ov7_11.ls.via cb)).get (i := 0) (getD_some (d := Sg.zero) lb)
            refine wp_seq ?_
            refine W_draw mixed (by kernel_rfl) ?_
            refine Q_v (fun w hw => R_move q7) ?_
            refine Q_v (fun w hw => R_elAddr (i := 0) Tryz.underlying23 Tryz.sizeOf34 rfl rfl ((ov7_5.ls.ext hw).via ca).1 (by first | omega | (revert hb; generalize ya.length = m9; generalize yb.length = k9; intro hb; simp at hb; omega) | (revert hb hg; generalize ya.length = m9; generalize yb.length = k9; intro hb hg; simp at hb hg; omega))) ?_
            refine Q_v (fun w hw => R_fieldEl (k := 0 * 23) Tryz.runUnderlying34 rfl Tryz.sizeOf32 ((ov7_5.ls.ext hw).via ca).1 (lel_ltz (C := cS) (s := 23) rfl (by decide) (getD_some (d := Sg.zero) (by first | omega | (revert hb; generalize ya.length = m9; generalize yb.length = k9; intro hb; simp at hb; omega) | (revert hb hg; generalize ya.length = m9; generalize yb.length = k9; intro hb hg; simp at hb hg; omega)))) rfl) ?_
            refine Q_v (fun w hw => R_ldC (C := cS) (i := 0) (k := 22) (y := ((ya).getD (0) Sg.zero)) (u := (.slice (((ya).getD (0) Sg.zero)).A (((ya).getD (0) Sg.zero)).n (((ya).getD (0) Sg.zero)).c)) Tryz.isAgg32 rfl ((ov7_5.ls.ext hw).via ca) (getD_some (d := Sg.zero) (by first | omega | (revert hb; generalize ya.length = m9; generalize yb.length = k9; intro hb; simp at hb; omega) | (revert hb hg; generalize ya.length = m9; generalize yb.length = k9; intro hb hg; simp at hb hg; omega))) (by decide) rfl) ?_
            refine Q_v (fun w hw => R_str (b := (((ya).getD (0) Sg.zero)).sig) rfl (ka.fb (Fb.ext hw)).bs) ?_
            refine Q_v (fun w hw => R_move q8) ?_
            refine Q_v (fun w hw => R_elAddr (i := 0) Tryz.underlying23 Tryz.sizeOf34 rfl rfl ((ov7_11.ls.ext hw).via cb).1 (by first | omega | (revert hb; generalize ya.length = m9; generalize yb.length = k9; intro hb; simp at hb; omega) | (revert hb hg; generalize ya.length = m9; generalize yb.length = k9; intro hb hg; simp at hb hg; omega))) ?_
            refine Q_v (fun w hw => R_fieldEl (k := 0 * 23) Tryz.runUnderlying34 rfl Tryz.sizeOf32 ((ov7_11.ls.ext hw).via cb).1 (lel_ltz (C := cS) (s := 23) rfl (by decide) (getD_some (d := Sg.zero) (by first | omega | (revert hb; generalize ya.length = m9; generalize yb.length = k9; intro hb; simp at hb; omega) | (revert hb hg; generalize ya.length = m9; generalize yb.length = k9; intro hb hg; simp at hb hg; omega)))) rfl) ?_
            refine Q_v (fun w hw => R_ldC (C := cS) (i := 0) (k := 22) (y := ((yb).getD (0) Sg.zero)) (u := (.slice (((yb).getD (0) Sg.zero)).A (((yb).getD (0) Sg.zero)).n (((yb).getD (0) Sg.zero)).c)) Tryz.isAgg32 rfl ((ov7_11.ls.ext hw).via cb) (getD_some (d := Sg.zero) (by first | omega | (revert hb; generalize ya.length = m9; generalize yb.length = k9; intro hb; simp at hb; omega) | (revert hb hg; generalize ya.length = m9; generalize yb.length = k9; intro hb hg; simp at hb hg; omega))) (by decide) rfl) ?_
            refine Q_v (fun w hw => R_str (b := (((yb).getD (0) Sg.zero)).sig) rfl (kb.fb (Fb.ext hw)).bs) ?_
            refine Q_v (fun w hw => R_leqStr (a := (((ya).getD (0) Sg.zero)).sig) (b := (((yb).getD (0) Sg.zero)).sig) rfl rfl) ?_
            refine Q_v (fun w hw => R_assign rfl) ?_
            refine Q_nil (fun w13_99 e13_99 => ?_)
            replace hE := hE.trans e13_99
            replace ov7_5 := ov7_5.ext e13_99
            replace ov7_11 := ov7_11.ext e13_99
            replace or9 := or9.ext e13_99
            replace ka := ka.fb (Fb.ext e13_99)
            replace kb := kb.fb (Fb.ext e13_99)
            refine T_tn ?_
            refine W_if rfl (fun c6 => ?_) (fun c6 => ?_)
            ·
              have hle := sle_y c6
              refine W_region ?_
              refine L (D_v (R_move q8) ?_)
              refine L (D_v (R_sliceLo (i := 1) Tryz.underlying23 Tryz.sizeOf34 rfl rfl (ov7_11.ls.via cb).1 (by (try simp only [List.length_take, List.length_drop, List.length_append, List.length_cons, List.length_nil, List.length_replicate, List.length_set, Nm.b_len, be2_len]); omega)) ?_)
              refine L (D_v (R_assign rfl) ?_)
              refine S_nil ?_
              refine T_bn ?_
              refine T_bn ?_
              refine T_tn ?_
              refine ⟨_, _, ?_, rfl, va, ya, (cutV vb (Cd.sz cS) (1) ((yb).length)), (((yb).drop (1)).take ((yb).length - 1)), _, _, rfl, q7, rfl, q9, hE, ov7_5, ov7_11, or9, zv7_5_r9, zv7_11_r9, ?_, ?_, ?_, ?_⟩
              all_goals first | omega | exact ca | exact cb | exact ca.cut (by omega) (Nat.le_refl _) | exact cb.cut (by omega) (Nat.le_refl _) | (simp only [List.length_append, List.length_cons, List.length_nil, List.length_take, List.length_drop]; omega) | exact hM.takeA la hcA | exact hM.takeB lb hcB | exact hM.dropB la lb hve hle | exact hM.dropA la lb hve hle
            ·
              have hle := sle_n c6
              refine W_region ?_
              refine L (D_v (R_move q7) ?_)
              refine L (D_v (R_sliceLo (i := 1) Tryz.underlying23 Tryz.sizeOf34 rfl rfl (ov7_5.ls.via ca).1 (by (try simp only [List.length_take, List.length_drop, List.length_append, List.length_cons, List.length_nil, List.length_replicate, List.length_set, Nm.b_len, be2_len]); omega)) ?_)
              refine L (D_v (R_assign rfl) ?_)
              refine S_nil ?_
              refine T_bn ?_
              refine T_bn ?_
              refine T_tn ?_
              refine ⟨_, _, ?_, rfl, (cutV va (Cd.sz cS) (1) ((ya).length)), (((ya).drop (1)).take ((ya).length - 1)), vb, yb, _, _, rfl, rfl, q8, q9, hE, ov7_5, ov7_11, or9, zv7_5_r9, zv7_11_r9, ?_, ?_, ?_, ?_⟩
              all_goals first | omega | exact ca | exact cb | exact ca.cut (by omega) (Nat.le_refl _) | exact cb.cut (by omega) (Nat.le_refl _) | (simp only [List.length_append, List.length_cons, List.length_nil, List.length_take, List.length_drop]; omega) | exact hM.takeA la hcA | exact hM.takeB lb hcB | exact hM.dropB la lb hve hle | exact hM.dropA la lb hve hle
      ·
        have l00 : ya.length = 0 ∧ yb.length = 0 := by (revert c3; generalize ya.length = m9; generalize yb.length = k9; intro h8; simp at h8; omega)
        refine wp_exit ?_
        refine T_te ?_
        refine T_te ?_
        refine T_be ?_
        refine T_tn ?_
        refine wp_seq ?_
        refine W_region ?_
        refine L (D_v (R_move q9) ?_)
        refine L (D_v (R_assign rfl) ?_)
        refine S_nil ?_
        refine T_tn ?_
        refine wp_ret ?_
        refine ret1 (v := r9) rfl rfl ⟨_, rfl, hE, ?_⟩
        first | exact ⟨_, or9, by first | omega | (simp only [List.length_append, List.length_nil] at *; omega), can_of_asc (by rw [List.take_of_length_le (Nat.le_refl _)] at hcp; exact hcp) hall⟩ | exact ⟨_, or9, by first | omega | (simp only [List.length_append, List.length_nil] at *; omega), halves cn7_5 cn7_11 (hM.fin l00.1 l00.2)⟩
theorem c65kf (F : Nat) : ∀ (lo : Nat) (v : Value) (xs : List Sg) (w : World), xs.length < F → lo ≤ w.heap.size → xs.length ≤ 1000000 → Ls cS lo w v xs → (∀ x ∈ xs, x.sig.length ≤ 140737488355328) → Calls Tryz.prog 26 [v].toArray w (RetE w fun r w' => ∃ ys, Ow cS lo w.heap.size w' r ys ∧ ys.length ≤ xs.length ∧ IsCan (xs.map Sg.p) (ys.map Sg.p)) := by
  induction F with
  | zero => exact fun lo v xs w hF => absurd hF (Nat.not_lt_zero _)
  | succ F ih => exact fun lo v xs w hF => c65ks F ih lo v xs w hF
theorem c65k (lo : Nat) (v : Value) (xs : List Sg) (w : World) (hlo : lo ≤ w.heap.size) (hn : xs.length ≤ 1000000) (h : Ls cS lo w v xs) (hsl : ∀ x ∈ xs, x.sig.length ≤ 140737488355328) : Calls Tryz.prog 26 [v].toArray w (RetE w fun r w' => ∃ ys, Ow cS lo w.heap.size w' r ys ∧ ys.length ≤ xs.length ∧ IsCan (xs.map Sg.p) (ys.map Sg.p)) := c65kf (xs.length + 1) lo v xs w (Nat.lt_succ_self _) hlo hn h hsl
end Go.Proofs.YteeopgpgbdhmhaaGreat
namespace Go.Proofs.YteeopgpgbdhmhaaGreat
open Go.RowKit
set_option linter.unusedVariables false
set_option linter.unusedSimpArgs false
attribute [local irreducible] wpList wpO H wpQuiet wpStill Code.wp Exit.then Exit.inBlock bodyPost Code.rounds Calls valid sameKey conflict lessV hless num between
set_option maxRecDepth 4000 in
set_option maxHeartbeats 2000000 in
theorem c91 (vk : Value) (keys : List Nm) (x : Sg) (w : World) (hk : Ls cN w.heap.size w vk keys) (hs : x.okf w.heap.size w) : Calls Tryz.prog 25 [vk, x.v].toArray w (Ret w (.bool (verK keys x.p))) := by
  refine enter Tryz.func25 Tryz.ntmps25 rfl rfl ?_
  have hE := Ext.refl w
  refine wp_seq ?_
  refine W_region ?_
  refine L (D_box (c := (x).l) (rfl) (fun aB1_0 w1_0 e1_0 gB1_0 hB1_0 => ?_))
  have lB1_0 := Nat.le_trans hE.size gB1_0
  replace hE := hE.trans e1_0
  refine L (D_v (R_assign rfl) ?_)
  refine S_nil ?_
  refine T_tn ?_
  refine wp_seq ?_
  refine W_draw mixed (by kernel_rfl) ?_
  refine Q_v (fun w hw => R_fieldAddr Tryz.runUnderlying34 rfl Tryz.sizeOf31 rfl) ?_
  refine Q_v (fun w hw => R_fieldAddr Tryz.runUnderlying31 rfl Tryz.sizeOf3 rfl) ?_
  refine Q_v (fun w hw => R_load Tryz.isAgg3 (hB1_0.ext hw) rfl rfl) ?_
  refine Q_v (fun w hw => R_geqI rfl rfl) ?_
  refine Q_v (fun w hw => R_move rfl) ?_
  refine Q_g1 rfl rfl (fun hb w hw => R_fieldAddr Tryz.runUnderlying34 rfl Tryz.sizeOf31 rfl) ?_
  refine Q_g1 rfl rfl (fun hb w hw => R_fieldAddr Tryz.runUnderlying31 rfl Tryz.sizeOf3 (cgE hb)) ?_
  refine Q_g1 rfl rfl (fun hb w hw => R_load Tryz.isAgg3 (hB1_0.ext hw) (cgE hb) rfl) ?_
  refine Q_g1 rfl rfl (fun hb w hw => R_move rfl) ?_
  refine Q_g1 rfl rfl (fun hb w hw => R_len Tryz.underlying22 (cgE hb) (hk.ext (hE.trans hw)).1) ?_
  refine Q_g1 rfl rfl (fun hb w hw => R_lssI (cgE hb) (cgE hb)) ?_
  refine Q_v (fun w hw => R_pickA rfl rfl rfl) ?_
  refine Q_v (fun w hw => R_move rfl) ?_
  refine Q_g1 rfl rfl (fun hb w hw => R_move rfl) ?_
  refine Q_g1 rfl rfl (fun hb w hw => R_fieldAddr Tryz.runUnderlying34 rfl Tryz.sizeOf31 rfl) ?_
  refine Q_g1 rfl rfl (fun hb w hw => R_fieldAddr Tryz.runUnderlying31 rfl Tryz.sizeOf3 (cgE hb)) ?_
  refine Q_g1 rfl rfl (fun hb w hw => R_load Tryz.isAgg3 (hB1_0.ext hw) (cgE hb) rfl) ?_
  refine Q_g1 rfl rfl (fun hb w hw => R_elI (i := (x).vote.signer) Tryz.underlying22 Tryz.sizeOf29 (cgE hb) (cgE hb) (hk.ext (hE.trans hw)).1 (by simp at hb; omega) (by simp at hb; omega)) ?_
  refine Q_g1 rfl rfl (fun hb w hw => R_ldL (C := cN) (i := ((x).vote.signer).toNat) (y := ((keys).getD (((x).vote.signer).toNat) Nm.zero)) Tryz.isAgg29 Tryz.sizeOf29 (cgE hb) (hk.ext (hE.trans hw)) (getD_some (d := Nm.zero) (by simp at hb; omega))) ?_
  refine Q_g1 rfl rfl (fun hb w hw => R_loadA (c := (x).l) Tryz.isAgg34 Tryz.sizeOf34 (hB1_0.ext hw) rfl rfl rfl) ?_
  refine Q_gc1 rfl rfl (fun hb w hw => R_callF Tryz.call19 (mapv2 (cgE hb) (cgE hb)) rfl) (fun hb w hw => c116 (((keys).getD (((x).vote.signer).toNat) Nm.zero)) (x) _ ((hs.fb (Fb.ext (hE.trans hw))).up (Nat.le_trans (Nat.le_refl _) (hE.trans hw).size))) ?_
  refine Q_v (fun w hw => R_pickA rfl rfl rfl) ?_
  refine Q_v (fun w hw => R_assign rfl) ?_
  refine Q_nil (fun w2_99 e2_99 => ?_)
  replace hE := hE.trans e2_99
  replace hB1_0 := hB1_0.ext e2_99
  refine T_tn ?_
  refine wp_ret ?_
  refine ret1 (v := .bool _) rfl rfl ⟨congrArg (fun b => Ending.returned (Value.bool b)) ?_, hE⟩
  rfl
set_option maxRecDepth 4000 in
set_option maxHeartbeats 1000000 in
theorem c51 (i : Int) (w : World) : Calls Tryz.prog 31 [i64 i].toArray w (Ret w (i64 (bitR i))) := by
  refine enter Tryz.func31 Tryz.ntmps31 rfl rfl ?_
  have hE := Ext.refl w
  refine wp_seq ?_
  refine W_region ?_
  refine L (D_v (R_assign rfl) ?_)
  refine S_nil ?_
  refine T_tn ?_
  refine wp_seq ?_
  refine wp_seq ?_
  refine W_region ?_
  refine L (D_v (R_move rfl) ?_)
  refine L (D_v (R_lssI rfl rfl) ?_)
  refine L (D_v (R_move rfl) ?_)
  refine L (D_g1 rfl rfl (fun hb => R_move rfl) ?_)
  refine L (D_g1 rfl rfl (fun hb => R_geqI (cgE hb) rfl) ?_)
  refine L (D_v (R_pickO rfl rfl rfl) ?_)
  refine S_nil ?_
  refine T_tn ?_
  refine W_if rfl (fun c1 => ?_) (fun c1 => ?_)
  ·
    have hv : i < 0 ∨ 10 ≤ i := by simpa using c1
    refine wp_seq ?_
    refine W_region ?_
    refine L (D_v (R_assign rfl) ?_)
    refine S_nil ?_
    refine T_tn ?_
    refine wp_ret ?_
    refine T_tr ?_
    refine ret1 (v := .int _ _) rfl rfl ⟨?_, hE⟩
    unfold bitR; rw [if_pos hv]; rfl
  ·
    have hv : 0 ≤ i ∧ i ≤ 9 := by simp at c1; omega
    refine wp_skip ?_
    refine T_tn ?_
    refine wp_seq ?_
    refine W_region ?_
    refine L (D_v (R_move rfl) ?_)
    refine L (D_v (R_cast (v' := .int .u64 i) (R_conv Tryz.runUnderlying3 Tryz.runUnderlying79 rfl) (congrArg (Value.int .u64) (by have hbp := hv; rw [IntKind.wrap_u64]; omega))) ?_)
    refine L (D_v (R_bit (s := i) rfl rfl hv) ?_)
    refine L (D_v (R_assign rfl) ?_)
    refine S_nil ?_
    refine T_tn ?_
    refine wp_ret ?_
    refine ret1 (v := .int _ _) rfl rfl ⟨?_, hE⟩
    rw [bitR_in hv]; rfl
end Go.Proofs.YteeopgpgbdhmhaaGreat
namespace Go.Proofs.YteeopgpgbdhmhaaGreat
open Go.RowKit
set_option linter.unusedVariables false
def adjP : List Pv → List (Pv × Pv)
  | a :: b :: l => (a, b) :: adjP (b :: l)
  | _ => []
def qC (s : Nat) (e : Pv × Pv) : Bool := decide (e.1.1.signer = ((s : Nat) : Int)) && conflict e.1.1 e.2.1
def firstC (ys : List Pv) (s : Nat) : Option (Pv × Pv) := (adjP ys).find? (qC s)
def refF (ys : List Pv) (k : Nat) : List (Pv × Pv) := (List.range k).filterMap (firstC ys)
theorem adj_len : ∀ ys : List Pv, (adjP ys).length = ys.length - 1
  | [] => rfl
  | [_] => rfl
  | a :: b :: l => by simp [adjP, adj_len (b :: l)]
theorem adj_get : ∀ (ys : List Pv) (j : Nat) (x y : Pv), ys[j]? = some x → ys[j + 1]? = some y → (adjP ys)[j]? = some (x, y)
  | [], j, x, y, h, _ => by simp at h
  | [a], j, x, y, _, h => by simp at h
  | a :: b :: l, 0, x, y, h, k => by
    simp at h k; subst h k; rfl
  | a :: b :: l, j + 1, x, y, h, k => adj_get (b :: l) j x y h k
theorem adj_snoc : ∀ (us : List Pv) (l s : Pv), adjP (us ++ [l] ++ [s]) = adjP (us ++ [l]) ++ [(l, s)]
  | [], l, s => rfl
  | [a], l, s => rfl
  | a :: b :: us, l, s => by
    have := adj_snoc (b :: us) l s
    simp only [List.cons_append] at this ⊢
    rw [adjP, this, adjP]; rfl
theorem first_snoc (us : List Pv) (l s : Pv) (i : Nat) : firstC (us ++ [l] ++ [s]) i = (firstC (us ++ [l]) i).or (if qC i (l, s) then some (l, s) else none) := by
  unfold firstC
  rw [adj_snoc, List.find?_append]
  congr 1
  by_cases h : qC i (l, s) = true
  · rw [if_pos h, List.find?_cons_of_pos h]
  · rw [if_neg h, List.find?_cons_of_neg h]; rfl
structure GI (us : List Pv) (st : Fst) : Prop where
  first : ∀ i : Nat, i < 10 → st.2[i]? = some (firstC us i)
  mem : ∀ (i : Nat) e, st.2[i]? = some (some e) → e.1 ∈ st.1
theorem GI.zero : GI [] fst0 := by
  refine ⟨fun i hi => ?_, fun i e h => ?_⟩
  · show (List.replicate 10 none)[i]? = _
    rw [List.getElem?_replicate, if_pos hi]; rfl
  · have h1 := List.mem_of_getElem? h
    simp [fst0] at h1
theorem GI.step {us : List Pv} {st : Fst} {s : Pv} (h : GI us st) (hF : FI us st) (ha : asc (us ++ [s])) (hval : ∀ u ∈ us ++ [s], valid u.1 = true) : GI (us ++ [s]) (fstep st s) := by
  have hs : ∀ u ∈ us, lessV u.1 s.1 = true := fun u hu => (List.pairwise_append.1 ha).2.2 u hu s (List.mem_singleton_self _)
  have hsv := hval s (List.mem_append_right _ (List.mem_singleton_self _))
  have hr := valid_signer hsv
  obtain ⟨k, hk⟩ := Int.eq_ofNat_of_zero_le hr.1
  have hk10 : k < 10 := by omega
  have hkn : s.1.signer.toNat = k := by rw [hk]; rfl
  have hlen : k < st.2.length := by rw [hF.len]; exact hk10
  rcases List.eq_nil_or_concat us with rfl | ⟨vs, l, hus⟩
  · have h1 : st.1 = [] := List.eq_nil_iff_forall_not_mem.2 fun a hm => by have := hF.sub a hm; simp at this
    unfold fstep look
    rw [h1]
    refine ⟨fun i hi => ?_, fun i e he => ?_⟩
    · rw [show (([] : List Pv) ++ [s]) = [s] from rfl]; exact h.first i hi
    · have := h.mem i e he; rw [h1] at this; cases this
  · rw [List.concat_eq_append] at hus
    subst hus
    have hl : l ∈ vs ++ [l] := List.mem_append_right _ (List.mem_singleton_self _)
    have hls := hs l hl
    have hlv := hval l (List.mem_append_left _ hl)
    have hq : ∀ i : Nat, qC i (l, s) = true ↔ i = k ∧ sameKey l.1 s.1 = true := by
      intro i
      unfold qC
      rw [Bool.and_eq_true, decide_eq_true_iff, conflict_iff]
      constructor
      · rintro ⟨h1, _, h2, _⟩
        have e : ((i : Nat) : Int) = ((k : Nat) : Int) := (show l.1.signer = ((i : Nat) : Int) from h1).symm.trans ((sameKey_signer h2).trans hk)
        exact ⟨by omega, h2⟩
      · rintro ⟨rfl, h2⟩
        exact ⟨(sameKey_signer h2).trans hk, fun e => (by rw [show l.1 = s.1 from e, less_irr] at hls; cases hls), h2, hlv, hsv⟩
    unfold fstep
    cases hlk : look st.1 s.1 with
    | none =>
      have hno : sameKey l.1 s.1 = false := by
        obtain ⟨a, ha, hka⟩ := hF.key l hl
        have h2 := List.find?_eq_none.1 hlk a ha
        cases e : sameKey l.1 s.1 with
        | false => rfl
        | true => exact absurd (sameKey_trans hka e) (by simpa using h2)
      refine ⟨fun i hi => ?_, fun i e he => List.mem_append_left _ (h.mem i e he)⟩
      show st.2[i]? = _
      rw [first_snoc, if_neg (fun e => by have := ((hq i).1 e).2; rw [hno] at this; cases this), h.first i hi, Option.or_none]
    | some a =>
      have ham : a ∈ st.1 := List.mem_of_find?_eq_some hlk
      have hka : sameKey a.1 s.1 = true := by have := List.find?_some hlk; simpa using this
      have hau := hF.sub a ham
      have hal : a = l ∨ lessV a.1 l.1 = true := by
        rcases List.mem_append.1 hau with h1 | h1
        · exact .inr ((List.pairwise_append.1 (List.pairwise_append.1 ha).1).2.2 a h1 l (List.mem_singleton_self _))
        · exact .inl (List.mem_singleton.1 h1)
      have hkl : sameKey a.1 l.1 = true ∧ sameKey l.1 s.1 = true := by
        rcases hal with rfl | h1
        · exact ⟨sameKey_refl _, hka⟩
        · exact less_mid h1 hls hka
      have hqk : qC k (l, s) = true := (hq k).2 ⟨rfl, hkl.2⟩
      have hga : a.1.signer = ((k : Nat) : Int) := by rw [sameKey_signer hka]; exact hk
      show GI _ (if betters a (st.2.getD s.1.signer.toNat none) then (st.1, st.2.set s.1.signer.toNat (some (a, s))) else st)
      rw [hkn, List.getD_eq_getElem?_getD, h.first k hk10, Option.getD_some]
      have other : ∀ i : Nat, i < 10 → i ≠ k → firstC (vs ++ [l] ++ [s]) i = firstC (vs ++ [l]) i := by
        intro i hi hne
        rw [first_snoc, if_neg (fun e => hne ((hq i).1 e).1), Option.or_none]
      cases hc : firstC (vs ++ [l]) k with
      | none =>
        have e1 : a = l := hF.nun k (by rw [h.first k hk10, hc]) a hau l hl hga hkl.1
        rw [if_pos (show betters a none = true from rfl)]
        refine ⟨fun i hi => ?_, fun i e he => ?_⟩
        · show (st.2.set k (some (a, s)))[i]? = _
          rw [List.getElem?_set]
          by_cases hik : k = i
          · subst hik
            rw [if_pos rfl, if_pos hlen, first_snoc, hc, if_pos hqk, e1]; rfl
          · rw [if_neg hik, h.first i hi, other i hi (fun e => hik e.symm)]
        · have he' : (st.2.set k (some (a, s)))[i]? = some (some e) := he
          rw [List.getElem?_set] at he'
          by_cases hik : k = i
          · rw [if_pos hik, if_pos hlen] at he'
            cases he'; exact ham
          · rw [if_neg hik] at he'; exact h.mem i e he'
      | some e =>
        have hek : st.2[k]? = some (some e) := by rw [h.first k hk10, hc]
        have hem := h.mem k e hek
        have hnb : betters a (some e) = false := by
          show lessV a.1 e.1.1 = false
          cases hlt : lessV a.1 e.1.1 with
          | false => rfl
          | true =>
            have := (less_mid hlt (hs e.1 (hF.good k e hek).1) hka).1
            have := hF.one a ham e.1 hem this
            rw [this, less_irr] at hlt; cases hlt
        rw [hnb, if_neg (by decide)]
        refine ⟨fun i hi => ?_, h.mem⟩
        by_cases hik : i = k
        · subst hik
          rw [first_snoc, hc]; exact hek
        · rw [h.first i hi, other i hi hik]
theorem GI.all : ∀ (vs us : List Pv) (st : Fst), GI us st → FI us st → asc (us ++ vs) → (∀ v ∈ us ++ vs, valid v.1 = true) → GI (us ++ vs) (vs.foldl fstep st)
  | [], us, st, h, _, _, _ => by simpa using h
  | s :: vs, us, st, h, hF, ha, hv => by
    have hs : ∀ u ∈ us, lessV u.1 s.1 = true := fun u hu => (List.pairwise_append.1 ha).2.2 u hu s (List.mem_cons_self ..)
    have e1 : us ++ s :: vs = (us ++ [s]) ++ vs := by simp
    have ha1 : asc (us ++ [s]) := by rw [e1] at ha; exact (List.pairwise_append.1 ha).1
    have hv1 : ∀ u ∈ us ++ [s], valid u.1 = true := fun u hu => hv u (by rw [e1]; exact List.mem_append_left _ hu)
    have := GI.all vs (us ++ [s]) (fstep st s) (h.step hF ha1 hv1) (hF.step hs (valid_signer (hv1 s (List.mem_append_right _ (List.mem_singleton_self _))))) (by rw [← e1]; exact ha) (fun v hm => hv v (by rw [e1]; exact hm))
    rw [e1]
    exact this
theorem find_ref {ys : List Pv} (ha : asc ys) (hv : ∀ y ∈ ys, valid y.1 = true) : findP ys = refF ys 10 := by
  have hG := GI.all ys [] fst0 GI.zero FI.zero (by simpa using ha) (by simpa using hv)
  rw [List.nil_append] at hG
  have hF := findI ha fun y hy => valid_signer (hv y hy)
  unfold findP refF
  have e : (ys.foldl fstep fst0).2 = (List.range 10).map (firstC ys) := by
    apply List.ext_getElem?
    intro i
    by_cases hi : i < 10
    · rw [hG.first i hi, List.getElem?_map, List.getElem?_range hi]; rfl
    · rw [List.getElem?_eq_none (by rw [hF.len]; omega), List.getElem?_eq_none (by simp; omega)]
  rw [e, List.filterMap_map]; rfl
def seenC (xs : List Sg) (i j : Nat) : Option (Pv × Pv) := ((adjP (xs.map Sg.p)).take j).find? (qC i)
theorem seen_zero (xs : List Sg) (i : Nat) : seenC xs i 0 = none := rfl
theorem at_p {xs : List Sg} {j : Nat} (h : j < xs.length) : (xs.map Sg.p)[j]? = some (xs.getD j Sg.zero).p := by
  rw [List.getElem?_map, getD_some (d := Sg.zero) h]; rfl
theorem seen_succ {xs : List Sg} {i j : Nat} (lj : j + 1 < xs.length) : seenC xs i (j + 1) = (seenC xs i j).or (if qC i ((xs.getD j Sg.zero).p, (xs.getD (j + 1) Sg.zero).p) = true then some ((xs.getD j Sg.zero).p, (xs.getD (j + 1) Sg.zero).p) else none) := by
  unfold seenC
  have hg := adj_get (xs.map Sg.p) j _ _ (at_p (show j < xs.length by omega)) (at_p lj)
  rw [List.take_add_one, hg, Option.toList_some, List.find?_append]
  congr 1
  by_cases h : qC i ((xs.getD j Sg.zero).p, (xs.getD (j + 1) Sg.zero).p) = true
  · rw [if_pos h, List.find?_cons_of_pos h]
  · rw [if_neg h, List.find?_cons_of_neg h]; rfl
theorem ref_hit {xs : List Sg} {i j : Nat} {B : Bool} {es : List Ev} (h : es.map Ev.p = refF (xs.map Sg.p) i ++ (seenC xs i j).toList) (hB : B = (seenC xs i j).isSome) (lj : j + 1 < xs.length ∧ B = false)
    (hc : qC i ((xs.getD j Sg.zero).p, (xs.getD (j + 1) Sg.zero).p) = true) :
    (es ++ [(⟨xs.getD j Sg.zero, xs.getD (j + 1) Sg.zero⟩ : Ev)]).map Ev.p = refF (xs.map Sg.p) i ++ (seenC xs i (j + 1)).toList ∧ true = (seenC xs i (j + 1)).isSome := by
  have hn : seenC xs i j = none := by
    rw [lj.2] at hB
    exact Option.isNone_iff_eq_none.1 (by cases e : seenC xs i j <;> simp_all)
  rw [seen_succ lj.1, hn, if_pos hc]
  rw [hn] at h
  refine ⟨?_, rfl⟩
  rw [List.map_append, h]
  simp [Ev.p]
theorem ref_miss {xs : List Sg} {i j : Nat} {B : Bool} {es : List Ev} (h : es.map Ev.p = refF (xs.map Sg.p) i ++ (seenC xs i j).toList) (hB : B = (seenC xs i j).isSome) (lj : j + 1 < xs.length ∧ B = false)
    (hc : qC i ((xs.getD j Sg.zero).p, (xs.getD (j + 1) Sg.zero).p) = false) :
    es.map Ev.p = refF (xs.map Sg.p) i ++ (seenC xs i (j + 1)).toList ∧ B = (seenC xs i (j + 1)).isSome := by
  rw [seen_succ lj.1, if_neg (by rw [hc]; decide), Option.or_none]
  exact ⟨h, hB⟩
theorem ref_exit {xs : List Sg} {i j : Nat} {B : Bool} {es : List Ev} (h : es.map Ev.p = refF (xs.map Sg.p) i ++ (seenC xs i j).toList) (hB : B = (seenC xs i j).isSome) (hx : xs.length ≤ j + 1 ∨ B = true) :
    es.map Ev.p = refF (xs.map Sg.p) (i + 1) := by
  have e : seenC xs i j = firstC (xs.map Sg.p) i := by
    unfold seenC firstC
    rcases hx with hx | hx
    · rw [List.take_of_length_le (by rw [adj_len, List.length_map]; omega)]
    · rw [hx] at hB
      cases hs : seenC xs i j with
      | none => rw [hs] at hB; cases hB
      | some e =>
        have hs' : ((adjP (xs.map Sg.p)).take j).find? (qC i) = some e := hs
        rw [hs']
        conv => rhs; rw [← List.take_append_drop j (adjP (xs.map Sg.p)), List.find?_append, hs']
        rfl
  rw [h, e]
  unfold refF
  rw [List.range_succ, List.filterMap_append]
  congr 1
theorem ref_evs {keys : List Nm} {xs ys : List Sg} (h : ys.map Sg.p = evs keys xs) : refF (ys.map Sg.p) 10 = findP (evs keys xs) := by
  rw [h, find_ref (evs_asc keys xs) fun y hy => verK_valid (evs_mem hy).2]
theorem ref_len (P : List Pv) (k : Nat) : (refF P k).length ≤ k := by
  unfold refF
  exact Nat.le_trans (List.length_filterMap_le _ _) (by simp)
theorem notlj {m j : Nat} {B : Bool} (h : (decide (((j + 1 : Nat) : Int) < ((m : Nat) : Int)) && !B) = false) : m ≤ j + 1 ∨ B = true := by
  cases B with
  | true => exact .inr rfl
  | false => simp at h; left; omega
theorem alike_len {a b : List Sg} {P : List Pv} (ha : a.map Sg.p = P) (hb : b.map Sg.p = P) : a.length = b.length := by
  have := congrArg List.length (ha.trans hb.symm)
  simpa using this
theorem alike_at {a b : List Sg} {P : List Pv} (ha : a.map Sg.p = P) (hb : b.map Sg.p = P) {i : Nat} (hi : i < a.length) (hj : i < b.length) : (a.getD i Sg.zero).p = (b.getD i Sg.zero).p := by
  have h1 := at_p hi
  have h2 := at_p hj
  rw [ha] at h1
  rw [hb, h1] at h2
  exact Option.some.inj h2
theorem Ls.up3 {lo lo' : Nat} {w : World} {v : Value} {xs : List Ev} (h : Ls cE lo w v xs) (hl : lo ≤ lo') : Ls cE lo' w v xs := ⟨h.1, fun x hx => Ev.okf.up (h.2 x hx) hl⟩
theorem seen_len {xs : List Sg} {i j : Nat} {es : List Ev} (h : es.map Ev.p = refF (xs.map Sg.p) i ++ (seenC xs i j).toList) (lk : i < 10) : es.length ≤ 11 := by
  have h1 := congrArg List.length h
  have h2 := ref_len (xs.map Sg.p) i
  rw [List.length_map, List.length_append] at h1
  have h3 : (seenC xs i j).toList.length ≤ 1 := by cases seenC xs i j <;> simp
  omega
end Go.Proofs.YteeopgpgbdhmhaaGreat
namespace Go.Proofs.YteeopgpgbdhmhaaGreat
open Go.RowKit
set_option linter.unusedVariables false
set_option linter.unusedSimpArgs false
attribute [local irreducible] wpList wpO H wpQuiet wpStill Code.wp Exit.then Exit.inBlock bodyPost Code.rounds Calls valid sameKey conflict lessV hless num between
set_option maxRecDepth 4000 in
set_option maxHeartbeats 1500000 in
theorem c93k (vk : Value) (keys : List Nm) (lo : Nat) (v : Value) (xs : List Sg) (w : World) (hk : Ls cN w.heap.size w vk keys) (hlo : lo ≤ w.heap.size) (hn : xs.length ≤ 1000000) (h : Ls cS lo w v xs) : Calls Tryz.prog 8 [vk, v].toArray w (RetE w fun r w' => ∃ ys, Ow cS lo w.heap.size w' r ys ∧ ys.length ≤ xs.length ∧ ys.map Sg.p = evs keys xs) := by
  refine enter Tryz.func8 Tryz.ntmps8 rfl rfl ?_
  have hE := Ext.refl w
  refine wp_seq ?_
  refine W_region ?_
  refine L (D_v (R_assign rfl) ?_)
  refine S_nil ?_
  refine T_tn ?_
  refine wp_seq ?_
  refine W_region ?_
  refine L (D_v (R_assign rfl) ?_)
  refine S_nil ?_
  refine T_tn ?_
  refine wp_seq ?_
  refine wp_seq ?_
  refine W_region ?_
  refine L (D_v (R_assign rfl) ?_)
  refine S_nil ?_
  refine T_tn ?_
  refine wp_block ?_
  refine W_loop (fun mz g W => ∃ (i : Nat) (ys : List Sg) (r5 : Value), mz = xs.length - i ∧ g 0 = vk ∧ g 1 = v ∧ g 5 = r5 ∧ g 6 = i64 ((i : Nat) : Int) ∧ Ext w W ∧ Ow cS lo w.heap.size W r5 ys ∧ i ≤ xs.length ∧ ys.length ≤ i ∧ (∀ x ∈ ys, x.sig.length ≤ 140737488355328) ∧ ys = (xs.take i).filter (fun x => verK keys x.p)) ⟨0, [], _, rfl, rfl, rfl, rfl, rfl, hE, (Ow.nil cS lo _ _), (Nat.zero_le _), (by simp), (fun x hx => absurd hx (by simp)), (by simp)⟩ ?_
  rintro mz f4 w4l ⟨i, ys, r5, hm, q0, q1, q5, q6, hE, or5, hi, hl, hs, hys⟩
  refine wp_seq ?_
  refine wp_seq ?_
  refine W_region ?_
  refine L (D_v (R_move q6) ?_)
  refine L (D_v (R_move q1) ?_)
  refine L (D_v (R_len Tryz.underlying23 rfl (h.ext hE).1) ?_)
  refine L (D_v (R_lssI rfl rfl) ?_)
  refine S_nil ?_
  refine T_tn ?_
  refine W_if rfl (fun c1 => ?_) (fun c1 => ?_)
  ·
    have lk : i < xs.length := by have h9 := of_decide_eq_true c1; omega
    refine wp_skip ?_
    refine T_tn ?_
    refine wp_seq ?_
    refine wp_block ?_
    refine wp_seq ?_
    refine W_region ?_
    refine L (D_v (R_move q0) ?_)
    refine L (D_v (R_move q1) ?_)
    refine L (D_v (R_move q6) ?_)
    refine L (D_v (R_elAddr (i := i) Tryz.underlying23 Tryz.sizeOf34 rfl rfl (h.ext hE).1 (by (try simp only [List.length_take, List.length_drop, List.length_append, List.length_cons, List.length_nil, List.length_replicate, List.length_set, Nm.b_len, be2_len]); omega)) ?_)
    have k6_4 := ((h.ext hE)).get (i := i) (getD_some (d := Sg.zero) (by (try simp only [List.length_take, List.length_drop, List.length_append, List.length_cons, List.length_nil, List.length_replicate, List.length_set, Nm.b_len, be2_len]); omega))
    refine L (D_v (R_ldL (C := cS) (i := i) (y := ((xs).getD (i) Sg.zero)) Tryz.isAgg34 Tryz.sizeOf34 rfl (h.ext hE) (getD_some (d := Sg.zero) (by (try simp only [List.length_take, List.length_drop, List.length_append, List.length_cons, List.length_nil, List.length_replicate, List.length_set, Nm.b_len, be2_len]); omega))) ?_)
    refine L (D_call (R_callF Tryz.call25 rfl rfl) (c91 vk (keys) (((xs).getD (i) Sg.zero)) _ ((hk.ext hE).lev fun _ _ _ => trivial) (k6_4.up (Nat.le_trans hlo hE.size))) (fun w6_5 e6_5 => ?_))
    replace hE := hE.trans e6_5
    replace or5 := or5.ext e6_5
    replace k6_4 := k6_4.fb (Fb.ext e6_5)
    refine S_nil ?_
    refine T_tn ?_
    refine W_if rfl (fun c2 => ?_) (fun c2 => ?_)
    ·
      have hv := verK_sig c2
      have hf := flt_y (i := i) (xs := xs) hys lk c2
      refine W_region ?_
      refine L (D_v (R_move q5) ?_)
      refine L (D_v (R_move q1) ?_)
      refine L (D_v (R_move q6) ?_)
      refine L (D_v (R_elAddr (i := i) Tryz.underlying23 Tryz.sizeOf34 rfl rfl (h.ext hE).1 (by (try simp only [List.length_take, List.length_drop, List.length_append, List.length_cons, List.length_nil, List.length_replicate, List.length_set, Nm.b_len, be2_len]); omega)) ?_)
      have k7_4 := ((h.ext hE)).get (i := i) (getD_some (d := Sg.zero) (by (try simp only [List.length_take, List.length_drop, List.length_append, List.length_cons, List.length_nil, List.length_replicate, List.length_set, Nm.b_len, be2_len]); omega))
      refine L (D_v (R_ldL (C := cS) (i := i) (y := ((xs).getD (i) Sg.zero)) Tryz.isAgg34 Tryz.sizeOf34 rfl (h.ext hE) (getD_some (d := Sg.zero) (by (try simp only [List.length_take, List.length_drop, List.length_append, List.length_cons, List.length_nil, List.length_replicate, List.length_set, Nm.b_len, be2_len]); omega))) ?_)
      refine L (D_buildL1 (C := cS) (lo := lo) (y := ((xs).getD (i) Sg.zero)) Tryz.underlying23 Tryz.sizeOf34 Tryz.zeroValue34 (mapp1 rfl) (by decide) k7_4 (fun v7_5 w7_5 o7_5 e7_5 => ?_))
      have zr5_v7_5 := own_apart or5.1 o7_5.1
      have zv7_5_r5 := fun k hk hk2 => zr5_v7_5 k hk2 hk
      replace o7_5 := o7_5.low hE.size
      replace hE := hE.trans e7_5
      replace or5 := or5.ext e7_5
      replace k6_4 := k6_4.fb (Fb.ext e7_5)
      replace k7_4 := k7_4.fb (Fb.ext e7_5)
      refine L (D_appendL elt53 Tryz.underlying23 rfl rfl or5 hlo o7_5.ls (by (try simp only [List.length_take, List.length_drop, List.length_append, List.length_cons, List.length_nil, List.length_replicate, List.length_set, Nm.b_len, be2_len]); omega) (by (try simp only [List.length_take, List.length_drop, List.length_append, List.length_cons, List.length_nil, List.length_replicate, List.length_set, Nm.b_len, be2_len]); omega) hE.size (fun v7_6 w7_6 o7_6 g7_6 f7_6 sv7_6 => ?_))
      have zv7_5_v7_6 : ∀ k, Value.ownBlock v7_5 = some k → Value.ownBlock v7_6 ≠ some k := fun k hk2 hk => (sv7_6 _ hk).elim (fun h => zv7_5_r5 k hk2 h) (fun h => absurd h (Nat.not_le.2 (own_lt o7_5.1 hk2)))
      have zv7_6_v7_5 := fun k hk hk2 => zv7_5_v7_6 k hk2 hk
      replace hE := hE.grown g7_6 (fun k hk => own_ge or5.1 hk)
      replace o7_5 := o7_5.grown g7_6 (zv7_5_r5) f7_6
      replace k6_4 := k6_4.fb f7_6
      replace k7_4 := k7_4.fb f7_6
      refine L (D_v (R_assign rfl) ?_)
      refine S_nil ?_
      refine T_bn ?_
      refine T_tn ?_
      refine W_region ?_
      refine L (D_v (R_move q6) ?_)
      refine L (D_v (R_addN (m := i) (j := 1) rfl rfl (by (try simp only [List.length_take, List.length_drop, List.length_append, List.length_cons, List.length_nil, List.length_replicate, List.length_set, Nm.b_len, be2_len]); omega)) ?_)
      refine L (D_v (R_assign rfl) ?_)
      refine S_nil ?_
      refine T_tn ?_
      refine ⟨_, _, ?_, rfl, i + 1, _, _, rfl, q0, q1, rfl, rfl, hE, o7_6, ?_, ?_, ?_, ?_⟩
      all_goals first | omega | exact hs | exact hf | (simp only [List.length_append, List.length_cons, List.length_nil]; omega) | (intro x hx; exact (List.mem_append.1 hx).elim (hs x) (fun h1 => by rw [List.mem_singleton.1 h1]; exact hv))
    ·
      have hf := flt_n (i := i) (xs := xs) hys lk c2
      refine wp_skip ?_
      refine T_bn ?_
      refine T_tn ?_
      refine W_region ?_
      refine L (D_v (R_move q6) ?_)
      refine L (D_v (R_addN (m := i) (j := 1) rfl rfl (by (try simp only [List.length_take, List.length_drop, List.length_append, List.length_cons, List.length_nil, List.length_replicate, List.length_set, Nm.b_len, be2_len]); omega)) ?_)
      refine L (D_v (R_assign rfl) ?_)
      refine S_nil ?_
      refine T_tn ?_
      refine ⟨_, _, ?_, rfl, i + 1, _, _, rfl, q0, q1, q5, rfl, hE, or5, ?_, ?_, ?_, ?_⟩
      all_goals first | omega | exact hs | exact hf | (simp only [List.length_append, List.length_cons, List.length_nil]; omega) | (intro x hx; exact (List.mem_append.1 hx).elim (hs x) (fun h1 => by rw [List.mem_singleton.1 h1]; exact hv))
  ·
    obtain rfl : i = xs.length := by have h9 := of_decide_eq_false c1; omega
    refine wp_exit ?_
    refine T_te ?_
    refine T_te ?_
    refine T_be ?_
    refine T_tn ?_
    refine wp_seq ?_
    refine W_region ?_
    refine L (D_v (R_move q5) ?_)
    refine L (D_callE (R_callF Tryz.call26 rfl rfl) (c65k lo r5 (ys) _ (Nat.le_trans hlo hE.size) (by omega) or5.ls hs) (fun v6_1 w6_1 e6_1 p6_1 => ?_))
    obtain ⟨y6_1, o6_1, n6_1, cn6_1⟩ := p6_1
    have zr5_v6_1 := own_apart or5.1 o6_1.1
    have zv6_1_r5 := fun k hk hk2 => zr5_v6_1 k hk2 hk
    replace o6_1 := o6_1.low hE.size
    replace hE := hE.trans e6_1
    replace or5 := or5.ext e6_1
    refine L (D_v (R_assign rfl) ?_)
    refine S_nil ?_
    refine T_tn ?_
    refine wp_ret ?_
    refine ret1 (v := v6_1) rfl rfl ⟨_, rfl, hE, ?_⟩
    rw [List.take_of_length_le (Nat.le_refl _)] at hys
    exact ⟨_, o6_1, by omega, canP_eq (by rw [← hys]; exact cn6_1)⟩
set_option maxRecDepth 4000 in
set_option maxHeartbeats 1500000 in
theorem c92k (lo : Nat) (v : Value) (xs : List Sg) (w : World) (hlo : lo ≤ w.heap.size) (hn : xs.length ≤ 1000000) (h : Ls cS lo w v xs) : Calls Tryz.prog 12 [v].toArray w (RetE w fun r w' => ∃ es, Ow cE lo w.heap.size w' r es ∧ es.map Ev.p = refF (xs.map Sg.p) 10) := by
  refine enter Tryz.func12 Tryz.ntmps12 rfl rfl ?_
  have hE := Ext.refl w
  refine wp_seq ?_
  refine W_region ?_
  refine L (D_v (R_assign rfl) ?_)
  refine S_nil ?_
  refine T_tn ?_
  refine wp_seq ?_
  refine W_region ?_
  refine L (D_v (R_assign rfl) ?_)
  refine S_nil ?_
  refine T_tn ?_
  refine wp_seq ?_
  refine wp_seq ?_
  refine W_region ?_
  refine L (D_v (R_assign rfl) ?_)
  refine S_nil ?_
  refine T_tn ?_
  refine wp_block ?_
  refine W_loop (fun mz g W => ∃ (i : Nat) (es : List Ev) (r3 : Value), mz = 10 - i ∧ g 0 = v ∧ g 3 = r3 ∧ g 4 = i64 ((i : Nat) : Int) ∧ Ext w W ∧ Ow cE lo w.heap.size W r3 es ∧ i ≤ 10 ∧ es.map Ev.p = refF (xs.map Sg.p) i) ⟨0, [], _, rfl, rfl, rfl, rfl, hE, (Ow.nil cE lo _ _), (Nat.zero_le _), rfl⟩ ?_
  rintro mz f4 w4l ⟨i, es, r3, hm, q0, q3, q4, hE, or3, hi, hr⟩
  refine wp_seq ?_
  refine wp_seq ?_
  refine W_region ?_
  refine L (D_v (R_move q4) ?_)
  refine L (D_v (R_lssI rfl rfl) ?_)
  refine S_nil ?_
  refine T_tn ?_
  refine W_if rfl (fun c1 => ?_) (fun c1 => ?_)
  ·
    have lk : i < 10 := by simp at c1; omega
    refine wp_skip ?_
    refine T_tn ?_
    refine wp_seq ?_
    refine wp_block ?_
    refine wp_seq ?_
    refine W_region ?_
    refine L (D_v (R_assign rfl) ?_)
    refine S_nil ?_
    refine T_tn ?_
    refine wp_seq ?_
    refine W_region ?_
    refine L (D_v (R_assign rfl) ?_)
    refine S_nil ?_
    refine T_tn ?_
    refine wp_block ?_
    refine W_loop (fun mz g W => ∃ (j : Nat) (B : Bool) (es2 : List Ev) (r3 : Value), mz = xs.length - j ∧ g 0 = v ∧ g 3 = r3 ∧ g 4 = i64 ((i : Nat) : Int) ∧ g 5 = .bool B ∧ g 6 = i64 ((j : Nat) : Int) ∧ Ext w W ∧ Ow cE lo w.heap.size W r3 es2 ∧ j ≤ xs.length ∧ es2.map Ev.p = refF (xs.map Sg.p) i ++ (seenC xs i j).toList ∧ B = (seenC xs i j).isSome) ⟨0, false, es, _, rfl, q0, q3, q4, rfl, rfl, hE, or3, (Nat.zero_le _), (by rw [seen_zero]; simpa using hr), rfl⟩ ?_
    rintro mz f8 w8l ⟨j, B, es2, r3, hm, q0, q3, q4, q5, q6, hE, or3, hj, hr2, hB3⟩
    refine wp_seq ?_
    refine wp_seq ?_
    refine W_region ?_
    refine L (D_v (R_move q6) ?_)
    refine L (D_v (R_addN (m := j) (j := 1) rfl rfl (by (try simp only [List.length_take, List.length_drop, List.length_append, List.length_cons, List.length_nil, List.length_replicate, List.length_set, Nm.b_len, be2_len]); omega)) ?_)
    refine L (D_v (R_move q0) ?_)
    refine L (D_v (R_len Tryz.underlying23 rfl (h.ext hE).1) ?_)
    refine L (D_v (R_lssI rfl rfl) ?_)
    refine L (D_v (R_move rfl) ?_)
    refine L (D_g1 rfl rfl (fun hb => R_move q5) ?_)
    refine L (D_g1 rfl rfl (fun hb => R_not (cgE hb)) ?_)
    refine L (D_v (R_pickA rfl rfl rfl) ?_)
    refine S_nil ?_
    refine T_tn ?_
    refine W_if rfl (fun c2 => ?_) (fun c2 => ?_)
    ·
      have lj : j + 1 < xs.length ∧ B = false := by (revert c2; generalize xs.length = m9; intro h8; simp at h8; exact ⟨by omega, h8.2⟩)
      refine wp_skip ?_
      refine T_tn ?_
      refine wp_seq ?_
      refine wp_block ?_
      refine wp_seq ?_
      refine W_draw mixed (by kernel_rfl) ?_
      refine Q_v (fun w hw => R_move q0) ?_
      refine Q_v (fun w hw => R_move q6) ?_
      refine Q_v (fun w hw => R_elAddr (i := j) Tryz.underlying23 Tryz.sizeOf34 rfl rfl (h.ext (hE.trans hw)).1 (by (try simp only [List.length_take, List.length_drop, List.length_append, List.length_cons, List.length_nil, List.length_replicate, List.length_set, Nm.b_len, be2_len]); omega)) ?_
      refine Q_v (fun w hw => R_fieldEl (k := j * 23) Tryz.runUnderlying34 rfl Tryz.sizeOf31 (h.ext (hE.trans hw)).1 (lel_ltz (C := cS) (s := 23) rfl (by decide) (getD_some (d := Sg.zero) (by (try simp only [List.length_take, List.length_drop, List.length_append, List.length_cons, List.length_nil, List.length_replicate, List.length_set, Nm.b_len, be2_len]); omega))) rfl) ?_
      refine Q_v (fun w hw => R_fieldEl (k := j * 23 + 0) Tryz.runUnderlying31 rfl Tryz.sizeOf3 (h.ext (hE.trans hw)).1 (lel_lt0 (C := cS) (s := 23) rfl 0 (by decide) (getD_some (d := Sg.zero) (by (try simp only [List.length_take, List.length_drop, List.length_append, List.length_cons, List.length_nil, List.length_replicate, List.length_set, Nm.b_len, be2_len]); omega))) rfl) ?_
      refine Q_v (fun w hw => R_ldC (C := cS) (i := j) (k := 4) (y := ((xs).getD (j) Sg.zero)) (u := i64 (((xs).getD (j) Sg.zero)).vote.signer) Tryz.isAgg3 rfl (h.ext (hE.trans hw)) (getD_some (d := Sg.zero) (by (try simp only [List.length_take, List.length_drop, List.length_append, List.length_cons, List.length_nil, List.length_replicate, List.length_set, Nm.b_len, be2_len]); omega)) (by decide) rfl) ?_
      refine Q_v (fun w hw => R_move q4) ?_
      refine Q_v (fun w hw => R_eqlI rfl rfl) ?_
      refine Q_v (fun w hw => R_move rfl) ?_
      refine Q_g1 rfl rfl (fun hb w hw => R_move q0) ?_
      refine Q_g1 rfl rfl (fun hb w hw => R_move q6) ?_
      refine Q_g1 rfl rfl (fun hb w hw => R_elAddr (i := j) Tryz.underlying23 Tryz.sizeOf34 (cgE hb) (cgE hb) (h.ext (hE.trans hw)).1 (by first | ((try simp only [List.length_take, List.length_drop, List.length_append, List.length_cons, List.length_nil]); omega) | (simp at hb; omega))) ?_
      refine Q_g1 rfl rfl (fun hb w hw => R_fieldEl (k := j * 23) Tryz.runUnderlying34 rfl Tryz.sizeOf31 (h.ext (hE.trans hw)).1 (lel_ltz (C := cS) (s := 23) rfl (by decide) (getD_some (d := Sg.zero) (by first | ((try simp only [List.length_take, List.length_drop, List.length_append, List.length_cons, List.length_nil]); omega) | (simp at hb; omega)))) (cgE hb)) ?_
      refine Q_g1 rfl rfl (fun hb w hw => R_ldP (C := cS) (i := j) (k := 0) (y := ((xs).getD (j) Sg.zero)) (c := ((((xs).getD (j) Sg.zero)).vote).l) Tryz.isAgg31 Tryz.sizeOf31 (cgE hb) (h.ext (hE.trans hw)) (getD_some (d := Sg.zero) (by first | ((try simp only [List.length_take, List.length_drop, List.length_append, List.length_cons, List.length_nil]); omega) | (simp at hb; omega))) (by decide) (by decide) rfl) ?_
      refine Q_g1 rfl rfl (fun hb w hw => R_move q0) ?_
      refine Q_g1 rfl rfl (fun hb w hw => R_move q6) ?_
      refine Q_g1 rfl rfl (fun hb w hw => R_addN (m := j) (j := 1) (cgE hb) rfl (by first | ((try simp only [List.length_take, List.length_drop, List.length_append, List.length_cons, List.length_nil]); omega) | (simp at hb; omega))) ?_
      refine Q_g1 rfl rfl (fun hb w hw => R_elAddr (i := (j + 1)) Tryz.underlying23 Tryz.sizeOf34 (cgE hb) (cgE hb) (h.ext (hE.trans hw)).1 (by first | ((try simp only [List.length_take, List.length_drop, List.length_append, List.length_cons, List.length_nil]); omega) | (simp at hb; omega))) ?_
      refine Q_g1 rfl rfl (fun hb w hw => R_fieldEl (k := (j + 1) * 23) Tryz.runUnderlying34 rfl Tryz.sizeOf31 (h.ext (hE.trans hw)).1 (lel_ltz (C := cS) (s := 23) rfl (by decide) (getD_some (d := Sg.zero) (by first | ((try simp only [List.length_take, List.length_drop, List.length_append, List.length_cons, List.length_nil]); omega) | (simp at hb; omega)))) (cgE hb)) ?_
      refine Q_g1 rfl rfl (fun hb w hw => R_ldP (C := cS) (i := (j + 1)) (k := 0) (y := ((xs).getD ((j + 1)) Sg.zero)) (c := ((((xs).getD ((j + 1)) Sg.zero)).vote).l) Tryz.isAgg31 Tryz.sizeOf31 (cgE hb) (h.ext (hE.trans hw)) (getD_some (d := Sg.zero) (by first | ((try simp only [List.length_take, List.length_drop, List.length_append, List.length_cons, List.length_nil]); omega) | (simp at hb; omega))) (by decide) (by decide) rfl) ?_
      refine Q_gc1 rfl rfl (fun hb w hw => R_callF Tryz.call30 (mapv2 (cgE hb) (cgE hb)) rfl) (fun hb w hw => c32 ((((xs).getD (j) Sg.zero)).vote) ((((xs).getD ((j + 1)) Sg.zero)).vote) _ ) ?_
      refine Q_v (fun w hw => R_pickA rfl rfl rfl) ?_
      refine Q_nil (fun w10_99 e10_99 => ?_)
      replace hE := hE.trans e10_99
      replace or3 := or3.ext e10_99
      refine T_tn ?_
      refine W_if rfl (fun c3 => ?_) (fun c3 => ?_)
      ·
        have hh := ref_hit hr2 hB3 lj c3
        refine wp_seq ?_
        refine W_held (fun W => Ext w W ∧ True) mixed (fun w11_99 e11_99 => ?_)
        replace hE := hE.trans e11_99
        replace or3 := or3.ext e11_99
        refine H_take (i := 0) rfl (by kernel_rfl) (by kernel_rfl) (by kernel_rfl) rfl (pq_then (pq_block (pq_then (pq_then (pq_block (pq_block (pq_then (pq_then (pq_block (pq_then pq_body)))))))))) ⟨hE, trivial⟩ rfl (fun w hw => R_move q3) ?_
        refine H_take (i := 1) rfl (by kernel_rfl) (by kernel_rfl) (by kernel_rfl) rfl (pq_then (pq_block (pq_then (pq_then (pq_block (pq_block (pq_then (pq_then (pq_block (pq_then pq_body)))))))))) ⟨hE, trivial⟩ rfl (fun w hw => R_move q0) ?_
        refine H_take (i := 2) rfl (by kernel_rfl) (by kernel_rfl) (by kernel_rfl) rfl (pq_then (pq_block (pq_then (pq_then (pq_block (pq_block (pq_then (pq_then (pq_block (pq_then pq_body)))))))))) ⟨hE, trivial⟩ rfl (fun w hw => R_move q6) ?_
        refine H_take (i := 3) rfl (by kernel_rfl) (by kernel_rfl) (by kernel_rfl) rfl (pq_then (pq_block (pq_then (pq_then (pq_block (pq_block (pq_then (pq_then (pq_block (pq_then pq_body)))))))))) ⟨hE, trivial⟩ rfl (fun w hw => R_elAddr (i := j) Tryz.underlying23 Tryz.sizeOf34 rfl rfl (h.ext hw.1).1 (by (try simp only [List.length_take, List.length_drop, List.length_append, List.length_cons, List.length_nil, List.length_replicate, List.length_set, Nm.b_len, be2_len]); omega)) ?_
        refine H_take (i := 4) rfl (by kernel_rfl) (by kernel_rfl) (by kernel_rfl) rfl (pq_then (pq_block (pq_then (pq_then (pq_block (pq_block (pq_then (pq_then (pq_block (pq_then pq_body)))))))))) ⟨hE, trivial⟩ rfl (fun w hw => R_ldL (C := cS) (i := j) (y := ((xs).getD (j) Sg.zero)) Tryz.isAgg34 Tryz.sizeOf34 rfl (h.ext hw.1) (getD_some (d := Sg.zero) (by (try simp only [List.length_take, List.length_drop, List.length_append, List.length_cons, List.length_nil, List.length_replicate, List.length_set, Nm.b_len, be2_len]); omega))) ?_
        refine H_take (i := 5) rfl (by kernel_rfl) (by kernel_rfl) (by kernel_rfl) rfl (pq_then (pq_block (pq_then (pq_then (pq_block (pq_block (pq_then (pq_then (pq_block (pq_then pq_body)))))))))) ⟨hE, trivial⟩ rfl (fun w hw => R_move q0) ?_
        refine H_take (i := 6) rfl (by kernel_rfl) (by kernel_rfl) (by kernel_rfl) rfl (pq_then (pq_block (pq_then (pq_then (pq_block (pq_block (pq_then (pq_then (pq_block (pq_then pq_body)))))))))) ⟨hE, trivial⟩ rfl (fun w hw => R_move q6) ?_
        refine H_take (i := 7) rfl (by kernel_rfl) (by kernel_rfl) (by kernel_rfl) rfl (pq_then (pq_block (pq_then (pq_then (pq_block (pq_block (pq_then (pq_then (pq_block (pq_then pq_body)))))))))) ⟨hE, trivial⟩ rfl (fun w hw => R_addN (m := j) (j := 1) rfl rfl (by (try simp only [List.length_take, List.length_drop, List.length_append, List.length_cons, List.length_nil, List.length_replicate, List.length_set, Nm.b_len, be2_len]); omega)) ?_
        refine H_take (i := 8) rfl (by kernel_rfl) (by kernel_rfl) (by kernel_rfl) rfl (pq_then (pq_block (pq_then (pq_then (pq_block (pq_block (pq_then (pq_then (pq_block (pq_then pq_body)))))))))) ⟨hE, trivial⟩ rfl (fun w hw => R_elAddr (i := (j + 1)) Tryz.underlying23 Tryz.sizeOf34 rfl rfl (h.ext hw.1).1 (by (try simp only [List.length_take, List.length_drop, List.length_append, List.length_cons, List.length_nil, List.length_replicate, List.length_set, Nm.b_len, be2_len]); omega)) ?_
        refine H_take (i := 9) rfl (by kernel_rfl) (by kernel_rfl) (by kernel_rfl) rfl (pq_then (pq_block (pq_then (pq_then (pq_block (pq_block (pq_then (pq_then (pq_block (pq_then pq_body)))))))))) ⟨hE, trivial⟩ rfl (fun w hw => R_ldL (C := cS) (i := (j + 1)) (y := ((xs).getD ((j + 1)) Sg.zero)) Tryz.isAgg34 Tryz.sizeOf34 rfl (h.ext hw.1) (getD_some (d := Sg.zero) (by (try simp only [List.length_take, List.length_drop, List.length_append, List.length_cons, List.length_nil, List.length_replicate, List.length_set, Nm.b_len, be2_len]); omega))) ?_
        have k11_10 : Ev.okf lo w11_99 (⟨((xs).getD (j) Sg.zero), ((xs).getD ((j + 1)) Sg.zero)⟩ : Ev) := ⟨((h.get (getD_some (d := Sg.zero) (by (try simp only [List.length_take, List.length_drop, List.length_append, List.length_cons, List.length_nil, List.length_replicate, List.length_set, Nm.b_len, be2_len]); omega))).fb (Fb.ext hE)), ((h.get (getD_some (d := Sg.zero) (by (try simp only [List.length_take, List.length_drop, List.length_append, List.length_cons, List.length_nil, List.length_replicate, List.length_set, Nm.b_len, be2_len]); omega))).fb (Fb.ext hE))⟩
        refine H_op (i := 10) (by kernel_rfl) rfl rfl (D_v (R_buildS (vs := [(0, .agg (((xs).getD (j) Sg.zero)).l.toArray), (1, .agg (((xs).getD ((j + 1)) Sg.zero)).l.toArray)]) (c := (⟨((xs).getD (j) Sg.zero), ((xs).getD ((j + 1)) Sg.zero)⟩ : Ev).l) Tryz.runUnderlying51 places55 Tryz.zeroValue51 (mapp2 rfl rfl) (fill55 _ _)) ⟨⟨hE, trivial⟩, ?_⟩)
        refine H_op (i := 11) (by kernel_rfl) rfl rfl (D_buildL1 (C := cE) (lo := lo) (y := (⟨((xs).getD (j) Sg.zero), ((xs).getD ((j + 1)) Sg.zero)⟩ : Ev)) Tryz.underlying36 Tryz.sizeOf51 Tryz.zeroValue51 (mapp1 rfl) (by decide) k11_10 (fun v11_11 w11_11 o11_11 e11_11 => ?_))
        have zr3_v11_11 := own_apart or3.1 o11_11.1
        have zv11_11_r3 := fun k hk hk2 => zr3_v11_11 k hk2 hk
        replace o11_11 := o11_11.low hE.size
        replace hE := hE.trans e11_11
        replace or3 := or3.ext e11_11
        replace k11_10 := k11_10.fb (Fb.ext e11_11)
        refine ⟨⟨hE, trivial⟩, ?_⟩
        refine H_op (i := 12) (by kernel_rfl) rfl rfl (D_appendL elt55 Tryz.underlying36 rfl rfl or3 hlo o11_11.ls (by first | omega | (have h9 := seen_len hr2 lk; simp only [List.length_append, List.length_cons, List.length_nil]; omega)) (by first | omega | (have h9 := seen_len hr2 lk; simp only [List.length_append, List.length_cons, List.length_nil]; omega)) hE.size (fun v11_12 w11_12 o11_12 g11_12 f11_12 sv11_12 => ?_))
        have zv11_11_v11_12 : ∀ k, Value.ownBlock v11_11 = some k → Value.ownBlock v11_12 ≠ some k := fun k hk2 hk => (sv11_12 _ hk).elim (fun h => zv11_11_r3 k hk2 h) (fun h => absurd h (Nat.not_le.2 (own_lt o11_11.1 hk2)))
        have zv11_12_v11_11 := fun k hk hk2 => zv11_11_v11_12 k hk2 hk
        replace hE := hE.grown g11_12 (fun k hk => own_ge or3.1 hk)
        replace o11_11 := o11_11.grown g11_12 (zv11_11_r3) f11_12
        replace k11_10 := k11_10.fb f11_12
        refine ⟨⟨hE, trivial⟩, ?_⟩
        refine H_take (i := 13) rfl (by kernel_rfl) (by kernel_rfl) (by kernel_rfl) rfl (pq_then (pq_block (pq_then (pq_then (pq_block (pq_block (pq_then (pq_then (pq_block (pq_then pq_body)))))))))) ⟨hE, trivial⟩ rfl (fun w hw => R_assign rfl) ?_
        refine H_done (by kernel_rfl) ?_
        refine T_tn ?_
        refine W_region ?_
        refine L (D_v (R_assign rfl) ?_)
        refine S_nil ?_
        refine T_bn ?_
        refine T_tn ?_
        refine W_region ?_
        refine L (D_v (R_move q6) ?_)
        refine L (D_v (R_addN (m := j) (j := 1) rfl rfl (by (try simp only [List.length_take, List.length_drop, List.length_append, List.length_cons, List.length_nil, List.length_replicate, List.length_set, Nm.b_len, be2_len]); omega)) ?_)
        refine L (D_v (R_assign rfl) ?_)
        refine S_nil ?_
        refine T_tn ?_
        refine ⟨_, _, ?_, rfl, j + 1, _, _, _, rfl, q0, rfl, q4, rfl, rfl, hE, o11_12, ?_, ?_, ?_⟩
        all_goals first | omega | exact hh.1 | exact hh.2
      ·
        have hh := ref_miss hr2 hB3 lj c3
        refine wp_skip ?_
        refine T_bn ?_
        refine T_tn ?_
        refine W_region ?_
        refine L (D_v (R_move q6) ?_)
        refine L (D_v (R_addN (m := j) (j := 1) rfl rfl (by (try simp only [List.length_take, List.length_drop, List.length_append, List.length_cons, List.length_nil, List.length_replicate, List.length_set, Nm.b_len, be2_len]); omega)) ?_)
        refine L (D_v (R_assign rfl) ?_)
        refine S_nil ?_
        refine T_tn ?_
        refine ⟨_, _, ?_, rfl, j + 1, _, _, _, rfl, q0, q3, q4, q5, rfl, hE, or3, ?_, ?_, ?_⟩
        all_goals first | omega | exact hh.1 | exact hh.2
    ·
      have hx : xs.length ≤ j + 1 ∨ B = true := notlj c2
      have hnx := ref_exit hr2 hB3 hx
      refine wp_exit ?_
      refine T_te ?_
      refine T_te ?_
      refine T_be ?_
      refine T_bn ?_
      refine T_tn ?_
      refine W_region ?_
      refine L (D_v (R_move q4) ?_)
      refine L (D_v (R_addN (m := i) (j := 1) rfl rfl (by (try simp only [List.length_take, List.length_drop, List.length_append, List.length_cons, List.length_nil, List.length_replicate, List.length_set, Nm.b_len, be2_len]); omega)) ?_)
      refine L (D_v (R_assign rfl) ?_)
      refine S_nil ?_
      refine T_tn ?_
      refine ⟨_, _, ?_, rfl, i + 1, _, _, rfl, q0, q3, rfl, hE, or3, ?_, ?_⟩
      all_goals first | omega | exact hnx
  ·
    obtain rfl : i = 10 := by simp at c1; omega
    refine wp_exit ?_
    refine T_te ?_
    refine T_te ?_
    refine T_be ?_
    refine T_tn ?_
    refine wp_seq ?_
    refine W_region ?_
    refine L (D_v (R_move q3) ?_)
    refine L (D_v (R_assign rfl) ?_)
    refine S_nil ?_
    refine T_tn ?_
    refine wp_ret ?_
    refine ret1 (v := r3) rfl rfl ⟨_, rfl, hE, ?_⟩
    exact ⟨_, or3, hr⟩
set_option maxRecDepth 4000 in
set_option maxHeartbeats 1500000 in
theorem c914 (v : Value) (es : List Ev) (w : World) (h : Ls cE w.heap.size w v es) (hn : es.length ≤ 1000000) (hes : ∀ i : Nat, i < es.length → 0 ≤ (es.getD i Ev.zero).a.vote.signer ∧ (es.getD i Ev.zero).a.vote.signer ≤ 9) : Calls Tryz.prog 14 [v].toArray w (Ret w (i64 (maskP (es.map Ev.p) 0))) := by
  refine enter Tryz.func14 Tryz.ntmps14 rfl rfl ?_
  have hE := Ext.refl w
  refine wp_seq ?_
  refine W_region ?_
  refine L (D_v (R_assign rfl) ?_)
  refine S_nil ?_
  refine T_tn ?_
  refine wp_seq ?_
  refine W_region ?_
  refine L (D_v (R_assign rfl) ?_)
  refine S_nil ?_
  refine T_tn ?_
  refine wp_seq ?_
  refine wp_seq ?_
  refine W_region ?_
  refine L (D_v (R_assign rfl) ?_)
  refine S_nil ?_
  refine T_tn ?_
  refine wp_block ?_
  refine W_loop (fun mz g W => ∃ (i : Nat) (gu : Int), mz = es.length - i ∧ g 0 = v ∧ g 3 = i64 gu ∧ g 4 = i64 ((i : Nat) : Int) ∧ Ext w W ∧ i ≤ es.length ∧ gu = maskP ((es.take i).map Ev.p) 0) ⟨0, 0, rfl, rfl, rfl, rfl, hE, (Nat.zero_le _), rfl⟩ ?_
  rintro mz f4 w4l ⟨i, gu, hm, q0, q3, q4, hE, hi, hg⟩
  refine wp_seq ?_
  refine wp_seq ?_
  refine W_region ?_
  refine L (D_v (R_move q4) ?_)
  refine L (D_v (R_move q0) ?_)
  refine L (D_v (R_len Tryz.underlying36 rfl (h.ext hE).1) ?_)
  refine L (D_v (R_lssI rfl rfl) ?_)
  refine S_nil ?_
  refine T_tn ?_
  refine W_if rfl (fun c1 => ?_) (fun c1 => ?_)
  ·
    have lk : i < es.length := by have h9 := of_decide_eq_true c1; omega
    have hsg := hes i lk
    refine wp_skip ?_
    refine T_tn ?_
    refine wp_seq ?_
    refine wp_block ?_
    refine W_region ?_
    refine L (D_v (R_move q3) ?_)
    refine L (D_v (R_move q0) ?_)
    refine L (D_v (R_move q4) ?_)
    refine L (D_v (R_elAddr (i := i) Tryz.underlying36 Tryz.sizeOf51 rfl rfl (h.ext hE).1 (by (try simp only [List.length_take, List.length_drop, List.length_append, List.length_cons, List.length_nil, List.length_replicate, List.length_set, Nm.b_len, be2_len]); omega)) ?_)
    refine L (D_v (R_fieldEl (k := i * 46) Tryz.runUnderlying51 rfl Tryz.sizeOf34 (h.ext hE).1 (lel_ltz (C := cE) (s := 46) rfl (by decide) (getD_some (d := Ev.zero) (by (try simp only [List.length_take, List.length_drop, List.length_append, List.length_cons, List.length_nil, List.length_replicate, List.length_set, Nm.b_len, be2_len]); omega))) rfl) ?_)
    refine L (D_v (R_fieldEl (k := i * 46 + 0) Tryz.runUnderlying34 rfl Tryz.sizeOf31 (h.ext hE).1 (lel_lt0 (C := cE) (s := 46) rfl 0 (by decide) (getD_some (d := Ev.zero) (by (try simp only [List.length_take, List.length_drop, List.length_append, List.length_cons, List.length_nil, List.length_replicate, List.length_set, Nm.b_len, be2_len]); omega))) rfl) ?_)
    refine L (D_v (R_fieldEl (k := i * 46 + 0) Tryz.runUnderlying31 rfl Tryz.sizeOf3 (h.ext hE).1 (lel_lt0 (C := cE) (s := 46) rfl 0 (by decide) (getD_some (d := Ev.zero) (by (try simp only [List.length_take, List.length_drop, List.length_append, List.length_cons, List.length_nil, List.length_replicate, List.length_set, Nm.b_len, be2_len]); omega))) rfl) ?_)
    refine L (D_v (R_ldC (C := cE) (i := i) (k := 4) (y := ((es).getD (i) Ev.zero)) (u := i64 ((((es).getD (i) Ev.zero)).a).vote.signer) Tryz.isAgg3 rfl (h.ext hE) (getD_some (d := Ev.zero) (by (try simp only [List.length_take, List.length_drop, List.length_append, List.length_cons, List.length_nil, List.length_replicate, List.length_set, Nm.b_len, be2_len]); omega)) (by decide) rfl) ?_)
    refine L (D_call (R_callF Tryz.call31 rfl rfl) (c51 ((((es).getD (i) Ev.zero)).a).vote.signer _) (fun w6_8 e6_8 => ?_))
    replace hE := hE.trans e6_8
    refine L (D_v (R_orI rfl rfl) ?_)
    refine L (D_v (R_assign rfl) ?_)
    refine S_nil ?_
    refine T_bn ?_
    refine T_tn ?_
    refine W_region ?_
    refine L (D_v (R_move q4) ?_)
    refine L (D_v (R_addN (m := i) (j := 1) rfl rfl (by (try simp only [List.length_take, List.length_drop, List.length_append, List.length_cons, List.length_nil, List.length_replicate, List.length_set, Nm.b_len, be2_len]); omega)) ?_)
    refine L (D_v (R_assign rfl) ?_)
    refine S_nil ?_
    refine T_tn ?_
    refine ⟨_, _, ?_, rfl, i + 1, _, rfl, q0, rfl, rfl, hE, ?_, ?_⟩
    all_goals first | omega | (rw [bitR_in hsg]; exact mask_step hg lk)
  ·
    obtain rfl : i = es.length := by have h9 := of_decide_eq_false c1; omega
    refine wp_exit ?_
    refine T_te ?_
    refine T_te ?_
    refine T_be ?_
    refine T_tn ?_
    refine wp_seq ?_
    refine W_region ?_
    refine L (D_v (R_move q3) ?_)
    refine L (D_v (R_assign rfl) ?_)
    refine S_nil ?_
    refine T_tn ?_
    refine wp_ret ?_
    refine ret1 (v := .int _ _) rfl rfl ⟨?_, hE⟩
    rw [hg, List.take_of_length_le (Nat.le_refl _)]; rfl
theorem c72t (v u : Value) (xs ys : List Ev) (w : World) (hn : xs.length ≤ 1000000) (h : Ls cE w.heap.size w v xs) (hy : Ls cE w.heap.size w u ys) (he : xs.map Ev.p = ys.map Ev.p) : Calls Tryz.prog 10 [v, u].toArray w (Ret w (.bool true)) := by
  have h1 := c72 v u xs ys w hn h hy
  rwa [show pairsS xs ys = true from decide_eq_true he] at h1
set_option maxRecDepth 4000 in
set_option maxHeartbeats 4000000 in
theorem c903 (vk : Value) (keys : List Nm) (v : Value) (xs : List Sg) (w : World) (hk : Ls cN w.heap.size w vk keys) (h1 : Ls cS w.heap.size w v xs) : Calls Tryz.prog 3 [vk, v].toArray w (Ret w (.bool true)) := by
  refine enter Tryz.func3 Tryz.ntmps3 rfl rfl ?_
  have hE := Ext.refl w
  have hcut1 := cut60_ls h1
  obtain ⟨X1, hX1⟩ : ∃ X, X = xs.take 60 := ⟨_, rfl⟩
  rw [← hX1] at hcut1
  have hXl1 : X1.length ≤ 60 := by rw [hX1, List.length_take]; omega
  refine wp_seq ?_
  refine W_region ?_
  refine L (D_v (R_assign rfl) ?_)
  refine S_nil ?_
  refine T_tn ?_
  refine wp_seq ?_
  refine W_region ?_
  refine L (D_v (R_move rfl) ?_)
  refine L (D_call (R_callF Tryz.call6 rfl rfl) (c70 v (xs) _ ((h1.ext hE).up2 (Nat.le_trans (Nat.le_refl _) hE.size))) (fun w2_1 e2_1 => ?_))
  replace hE := hE.trans e2_1
  refine L (D_v (R_assign rfl) ?_)
  refine S_nil ?_
  refine T_tn ?_
  refine wp_seq ?_
  refine W_region ?_
  refine L (D_v (R_move rfl) ?_)
  refine L (D_v (R_move rfl) ?_)
  refine L (D_callE (R_callF Tryz.call7 rfl rfl) (c102 vk (keys) w.heap.size (cut60 v (xs).length) (X1) _ ((hk.ext hE).lev fun _ _ _ => trivial) (Nat.le_trans (Nat.le_refl _) hE.size) (by (try simp only [List.length_take, List.length_drop, List.length_append, List.length_cons, List.length_nil, List.length_replicate, List.length_set, Nm.b_len, be2_len]); omega) (hcut1.ext hE)) (fun v3_2 w3_2 e3_2 p3_2 => ?_))
  obtain ⟨y3_2, o3_2, zz3_2, za3_2, zb3_2, zc3_2, zd3_2⟩ := p3_2
  replace o3_2 := o3_2.low hE.size
  replace hE := hE.trans e3_2
  have hys : AllS w.heap.size _ y3_2 := o3_2.2
  have hyE : y3_2.map Sg.p = evs keys X1 := canP_eq (can_of zc3_2 zb3_2 zd3_2)
  have hyv := evs_vs hyE
  have hyl : y3_2.length ≤ 1000000 := by have h9 := ddn_len zz3_2 zz3_2.length; rw [← zd3_2] at h9; refine Nat.le_trans h9 (Nat.le_trans (Nat.le_of_eq za3_2) (Nat.le_trans (List.length_filter_le _ _) (by omega)))
  refine L (D_v (R_move rfl) ?_)
  refine L (D_v (R_move rfl) ?_)
  refine L (D_callE (R_callF Tryz.call8 rfl rfl) (c93k vk (keys) w.heap.size (cut60 v (xs).length) (X1) _ ((hk.ext hE).lev fun _ _ _ => trivial) (Nat.le_trans (Nat.le_refl _) hE.size) (by omega) (hcut1.ext hE)) (fun v3_5 w3_5 e3_5 p3_5 => ?_))
  obtain ⟨y3_5, o3_5, n3_5, hb3_5⟩ := p3_5
  have zv3_2_v3_5 := own_apart o3_2.1 o3_5.1
  have zv3_5_v3_2 := fun k hk hk2 => zv3_2_v3_5 k hk2 hk
  replace o3_5 := o3_5.low hE.size
  replace hE := hE.trans e3_5
  replace o3_2 := o3_2.ext e3_5
  replace hys := hys.fb (Fb.ext e3_5)
  refine L (D_v (R_assign rfl) ?_)
  refine L (D_v (R_assign rfl) ?_)
  refine S_nil ?_
  refine T_tn ?_
  refine wp_seq ?_
  refine wp_seq ?_
  refine W_region ?_
  refine L (D_v (R_move rfl) ?_)
  refine L (D_v (R_len Tryz.underlying23 rfl o3_2.ls.1) ?_)
  refine L (D_v (R_move rfl) ?_)
  refine L (D_v (R_len Tryz.underlying23 rfl o3_5.ls.1) ?_)
  refine L (D_v (R_neqI rfl rfl) ?_)
  refine S_nil ?_
  refine T_tn ?_
  refine W_if rfl (fun c1 => ?_) (fun c1 => ?_)
  ·
    exfalso; have hln := alike_len hyE hb3_5; revert c1; rw [hln]; simp
  ·
    have hln := alike_len hyE hb3_5
    refine wp_skip ?_
    refine T_tn ?_
    refine wp_seq ?_
    refine wp_seq ?_
    refine W_region ?_
    refine L (D_v (R_assign rfl) ?_)
    refine S_nil ?_
    refine T_tn ?_
    refine wp_block ?_
    refine W_loop (fun mz g W => ∃ (i : Nat), mz = y3_2.length - i ∧ g 0 = vk ∧ g 1 = (cut60 v (xs).length) ∧ g 5 = v3_2 ∧ g 6 = v3_5 ∧ g 7 = i64 ((i : Nat) : Int) ∧ Ext w W ∧ Ow cS w.heap.size w.heap.size W v3_2 y3_2 ∧ Ow cS w.heap.size w.heap.size W v3_5 y3_5 ∧ AllS w.heap.size W y3_2 ∧ i ≤ y3_2.length) ⟨0, rfl, rfl, rfl, rfl, rfl, rfl, hE, o3_2, o3_5, hys, (Nat.zero_le _)⟩ ?_
    rintro mz f6 w6l ⟨i, hm, q0, q1, q5, q6, q7, hE, ov3_2, ov3_5, hys, hi⟩
    refine wp_seq ?_
    refine wp_seq ?_
    refine W_region ?_
    refine L (D_v (R_move q7) ?_)
    refine L (D_v (R_move q5) ?_)
    refine L (D_v (R_len Tryz.underlying23 rfl ov3_2.ls.1) ?_)
    refine L (D_v (R_lssI rfl rfl) ?_)
    refine S_nil ?_
    refine T_tn ?_
    refine W_if rfl (fun c2 => ?_) (fun c2 => ?_)
    ·
      have lk : i < y3_2.length := by have h9 := of_decide_eq_true c2; omega
      have lk2 : i < y3_5.length := by omega
      have ka := (ov3_2.ls).get (i := i) (getD_some (d := Sg.zero) lk)
      have kb := (ov3_5.ls).get (i := i) (getD_some (d := Sg.zero) lk2)
      refine wp_skip ?_
      refine T_tn ?_
      refine wp_seq ?_
      refine wp_block ?_
      refine wp_seq ?_
      refine W_draw mixed (by kernel_rfl) ?_
      refine Q_v (fun w hw => R_move q5) ?_
      refine Q_v (fun w hw => R_move q7) ?_
      refine Q_v (fun w hw => R_elAddr (i := i) Tryz.underlying23 Tryz.sizeOf34 rfl rfl (ov3_2.ls.ext hw).1 lk) ?_
      refine Q_v (fun w hw => R_ldL (C := cS) (i := i) (y := ((y3_2).getD (i) Sg.zero)) Tryz.isAgg34 Tryz.sizeOf34 rfl (ov3_2.ls.ext hw) (getD_some (d := Sg.zero) lk)) ?_
      refine Q_v (fun w hw => R_move q6) ?_
      refine Q_v (fun w hw => R_move q7) ?_
      refine Q_v (fun w hw => R_elAddr (i := i) Tryz.underlying23 Tryz.sizeOf34 rfl rfl (ov3_5.ls.ext hw).1 lk2) ?_
      refine Q_v (fun w hw => R_ldL (C := cS) (i := i) (y := ((y3_5).getD (i) Sg.zero)) Tryz.isAgg34 Tryz.sizeOf34 rfl (ov3_5.ls.ext hw) (getD_some (d := Sg.zero) lk2)) ?_
      refine Q_call (fun w hw => R_callF Tryz.call9 rfl rfl) (fun w hw => c77 (((y3_2).getD (i) Sg.zero)) (((y3_5).getD (i) Sg.zero)) _ ((ka.fb (Fb.ext hw)).up (Nat.le_trans (Nat.le_refl _) (hE.trans hw).size)) ((kb.fb (Fb.ext hw)).up (Nat.le_trans (Nat.le_refl _) (hE.trans hw).size))) ?_
      refine Q_v (fun w hw => R_not rfl) ?_
      refine Q_nil (fun w8_99 e8_99 => ?_)
      replace hE := hE.trans e8_99
      replace ov3_2 := ov3_2.ext e8_99
      replace ov3_5 := ov3_5.ext e8_99
      replace hys := hys.fb (Fb.ext e8_99)
      replace ka := ka.fb (Fb.ext e8_99)
      replace kb := kb.fb (Fb.ext e8_99)
      refine T_tn ?_
      refine W_if rfl (fun c3 => ?_) (fun c3 => ?_)
      ·
        exfalso; revert c3; rw [alike_at hyE hb3_5 lk lk2, sameS_refl]; decide
      ·
        refine wp_skip ?_
        refine T_bn ?_
        refine T_tn ?_
        refine W_region ?_
        refine L (D_v (R_move q7) ?_)
        refine L (D_v (R_addN (m := i) (j := 1) rfl rfl (by (try simp only [List.length_take, List.length_drop, List.length_append, List.length_cons, List.length_nil, List.length_replicate, List.length_set, Nm.b_len, be2_len]); omega)) ?_)
        refine L (D_v (R_assign rfl) ?_)
        refine S_nil ?_
        refine T_tn ?_
        refine ⟨_, _, ?_, rfl, i + 1, rfl, q0, q1, q5, q6, rfl, hE, ov3_2, ov3_5, hys, ?_⟩
        all_goals first | omega
    ·
      refine wp_exit ?_
      refine T_te ?_
      refine T_te ?_
      refine T_be ?_
      refine T_tn ?_
      refine wp_seq ?_
      refine W_region ?_
      refine L (D_v (R_move q0) ?_)
      refine L (D_v (R_move q1) ?_)
      refine L (D_callE (R_callF Tryz.call11 rfl rfl) (c73 vk (keys) w.heap.size (cut60 v (xs).length) (X1) _ ((hk.ext hE).lev fun _ _ _ => trivial) (Nat.le_trans (Nat.le_refl _) hE.size) (by omega) (hcut1.ext hE)) (fun v8_2 w8_2 e8_2 p8_2 => ?_))
      obtain ⟨e8_2a, o8_2, pe8_2⟩ := p8_2
      replace o8_2 := o8_2.low hE.size
      replace hE := hE.trans e8_2
      replace ov3_5 := ov3_5.ext e8_2
      replace hys := hys.fb (Fb.ext e8_2)
      have hel := evs_el pe8_2
      refine L (D_v (R_move q6) ?_)
      refine L (D_callE (R_callF Tryz.call12 rfl rfl) (c92k w.heap.size v3_5 (y3_5) _ (Nat.le_trans (Nat.le_refl _) hE.size) (by omega) ov3_5.ls) (fun v8_4 w8_4 e8_4 p8_4 => ?_))
      obtain ⟨e8_4a, o8_4, pr8_4⟩ := p8_4
      have zv8_2_v8_4 := own_apart o8_2.1 o8_4.1
      have zv8_4_v8_2 := fun k hk hk2 => zv8_2_v8_4 k hk2 hk
      replace o8_4 := o8_4.low hE.size
      replace hE := hE.trans e8_4
      replace ov3_5 := ov3_5.ext e8_4
      replace o8_2 := o8_2.ext e8_4
      replace hys := hys.fb (Fb.ext e8_4)
      have pq8_4 := pr8_4.trans (ref_evs hb3_5)
      have hele8_4a := evs_el pq8_4
      refine L (D_call (R_callF Tryz.call10 rfl rfl) (c72t v8_2 v8_4 (e8_2a) (e8_4a) _ (by omega) (o8_2.ls.up3 (Nat.le_trans (Nat.le_refl _) hE.size)) (o8_4.ls.up3 (Nat.le_trans (Nat.le_refl _) hE.size)) (pe8_2.trans pq8_4.symm)) (fun w8_5 e8_5 => ?_))
      replace hE := hE.trans e8_5
      replace ov3_5 := ov3_5.ext e8_5
      replace o8_2 := o8_2.ext e8_5
      replace o8_4 := o8_4.ext e8_5
      replace hys := hys.fb (Fb.ext e8_5)
      refine L (D_v (R_move rfl) ?_)
      refine L (D_on rfl rfl (D_v (R_move q0) ?_))
      refine L (D_on rfl rfl (D_v (R_move q1) ?_))
      refine L (D_on rfl rfl (D_call (R_callF Tryz.call13 rfl rfl) (c71 vk (keys) w.heap.size (cut60 v (xs).length) (X1) _ ((hk.ext hE).lev fun _ _ _ => trivial) (Nat.le_trans (Nat.le_refl _) hE.size) (by omega) (hcut1.ext hE)) (fun w8_9 e8_9 => ?_)))
      replace hE := hE.trans e8_9
      replace ov3_5 := ov3_5.ext e8_9
      replace o8_2 := o8_2.ext e8_9
      replace o8_4 := o8_4.ext e8_9
      replace hys := hys.fb (Fb.ext e8_9)
      refine L (D_on rfl rfl (D_v (R_move q6) ?_))
      refine L (D_on rfl rfl (D_callE (R_callF Tryz.call12 rfl rfl) (c92k w.heap.size v3_5 (y3_5) _ (Nat.le_trans (Nat.le_refl _) hE.size) (by omega) ov3_5.ls) (fun v8_11 w8_11 e8_11 p8_11 => ?_)))
      obtain ⟨e8_11a, o8_11, pr8_11⟩ := p8_11
      have zv8_2_v8_11 := own_apart o8_2.1 o8_11.1
      have zv8_11_v8_2 := fun k hk hk2 => zv8_2_v8_11 k hk2 hk
      have zv8_4_v8_11 := own_apart o8_4.1 o8_11.1
      have zv8_11_v8_4 := fun k hk hk2 => zv8_4_v8_11 k hk2 hk
      replace o8_11 := o8_11.low hE.size
      replace hE := hE.trans e8_11
      replace ov3_5 := ov3_5.ext e8_11
      replace o8_2 := o8_2.ext e8_11
      replace o8_4 := o8_4.ext e8_11
      replace hys := hys.fb (Fb.ext e8_11)
      have pq8_11 := pr8_11.trans (ref_evs hb3_5)
      have hele8_11a := evs_el pq8_11
      refine L (D_on rfl rfl (D_call (R_callF Tryz.call14 rfl rfl) (c914 v8_11 (e8_11a) _ (o8_11.ls.up3 (Nat.le_trans (Nat.le_refl _) hE.size)) (by omega) (fun _ hi => evs_sg pq8_11 hi)) (fun w8_12 e8_12 => ?_)))
      replace hE := hE.trans e8_12
      replace ov3_5 := ov3_5.ext e8_12
      replace o8_2 := o8_2.ext e8_12
      replace o8_4 := o8_4.ext e8_12
      replace o8_11 := o8_11.ext e8_12
      replace hys := hys.fb (Fb.ext e8_12)
      refine L (D_on rfl rfl (D_v (R_cast (v' := .bool true) (R_eqlI rfl rfl) (congrArg Value.bool (by rw [pq8_11]; exact beq_self_eq_true _))) ?_))
      refine L (D_v (R_cast (v' := .bool true) (R_pick rfl rfl rfl) rfl) ?_)
      refine L (D_v (R_move rfl) ?_)
      refine L (D_on rfl rfl (D_call (R_callF Tryz.call15 rfl rfl) (c74 _) (fun w8_16 e8_16 => ?_)))
      replace hE := hE.trans e8_16
      replace ov3_5 := ov3_5.ext e8_16
      replace o8_2 := o8_2.ext e8_16
      replace o8_4 := o8_4.ext e8_16
      replace o8_11 := o8_11.ext e8_16
      replace hys := hys.fb (Fb.ext e8_16)
      refine L (D_v (R_cast (v' := .bool true) (R_pick rfl rfl rfl) rfl) ?_)
      refine L (D_v (R_assign rfl) ?_)
      refine S_nil ?_
      refine T_tn ?_
      refine wp_ret ?_
      refine ret1 (v := .bool _) rfl rfl ⟨congrArg (fun b => Ending.returned (Value.bool b)) ?_, hE⟩
      rfl
end Go.Proofs.YteeopgpgbdhmhaaGreat
