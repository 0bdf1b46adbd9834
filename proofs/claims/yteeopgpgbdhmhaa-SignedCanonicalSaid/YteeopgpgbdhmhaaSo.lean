/- Sorting in place, as plain data: a row is a function from places; swaps, rotations, merges. No condition. -/
import Derived.WalkKit
namespace Go.Proofs.Yteeopgpgbdhmhaa
set_option linter.unusedVariables false
structure Ordd {α : Type} (lt : α → α → Bool) : Prop where
  asym : ∀ x y, lt x y = true → lt y x = false
  trans : ∀ x y z, lt y x = false → lt z y = false → lt z x = false
section
variable {α : Type} {lt : α → α → Bool}
def srt (lt : α → α → Bool) (f : Nat → α) (a b : Nat) : Prop := ∀ p q, a ≤ p → p < q → q < b → lt (f q) (f p) = false
def swp (f : Nat → α) (i j : Nat) : Nat → α := fun k => if k = i then f j else if k = j then f i else f k
structure Mv (f g : Nat → α) (a b : Nat) : Prop where
  out : ∀ k, (k < a ∨ b ≤ k) → g k = f k
  to : ∀ k, a ≤ k → k < b → ∃ j, a ≤ j ∧ j < b ∧ g k = f j
  fro : ∀ k, a ≤ k → k < b → ∃ j, a ≤ j ∧ j < b ∧ f k = g j
theorem Mv.refl (f : Nat → α) (a b : Nat) : Mv f f a b := ⟨fun _ _ => rfl, fun k h1 h2 => ⟨k, h1, h2, rfl⟩, fun k h1 h2 => ⟨k, h1, h2, rfl⟩⟩
theorem Mv.trans {f g h : Nat → α} {a b : Nat} (x : Mv f g a b) (y : Mv g h a b) : Mv f h a b := by
  refine ⟨fun k hk => (y.out k hk).trans (x.out k hk), fun k h1 h2 => ?_, fun k h1 h2 => ?_⟩
  · obtain ⟨j, j1, j2, e⟩ := y.to k h1 h2
    obtain ⟨i, i1, i2, e2⟩ := x.to j j1 j2
    exact ⟨i, i1, i2, e.trans e2⟩
  · obtain ⟨j, j1, j2, e⟩ := x.fro k h1 h2
    obtain ⟨i, i1, i2, e2⟩ := y.fro j j1 j2
    exact ⟨i, i1, i2, e.trans e2⟩
theorem Mv.mono {f g : Nat → α} {a b a' b' : Nat} (x : Mv f g a b) (h1 : a' ≤ a) (h2 : b ≤ b') : Mv f g a' b' := by
  refine ⟨fun k hk => x.out k (by omega), fun k k1 k2 => ?_, fun k k1 k2 => ?_⟩
  · by_cases hk : a ≤ k ∧ k < b
    · obtain ⟨j, j1, j2, e⟩ := x.to k hk.1 hk.2
      exact ⟨j, by omega, by omega, e⟩
    · exact ⟨k, k1, k2, x.out k (by omega)⟩
  · by_cases hk : a ≤ k ∧ k < b
    · obtain ⟨j, j1, j2, e⟩ := x.fro k hk.1 hk.2
      exact ⟨j, by omega, by omega, e⟩
    · exact ⟨k, k1, k2, (x.out k (by omega)).symm⟩
theorem swp_l (f : Nat → α) (i j : Nat) : swp f i j i = f j := by simp [swp]
theorem swp_r (f : Nat → α) (i j : Nat) : swp f i j j = f i := by
  unfold swp; by_cases h : j = i
  · subst h; simp
  · simp [h]
theorem swp_o (f : Nat → α) {i j k : Nat} (h1 : k ≠ i) (h2 : k ≠ j) : swp f i j k = f k := by simp [swp, h1, h2]
theorem Mv.swp (f : Nat → α) {a b i j : Nat} (hi : a ≤ i ∧ i < b) (hj : a ≤ j ∧ j < b) : Mv f (swp f i j) a b := by
  refine ⟨fun k hk => swp_o f (by omega) (by omega), fun k h1 h2 => ?_, fun k h1 h2 => ?_⟩
  · by_cases e1 : k = i
    · subst e1; exact ⟨j, hj.1, hj.2, swp_l f _ _⟩
    · by_cases e2 : k = j
      · subst e2; exact ⟨i, hi.1, hi.2, swp_r f _ _⟩
      · exact ⟨k, h1, h2, swp_o f e1 e2⟩
  · by_cases e1 : k = i
    · subst e1; exact ⟨j, hj.1, hj.2, (swp_r f _ _).symm⟩
    · by_cases e2 : k = j
      · subst e2; exact ⟨i, hi.1, hi.2, (swp_l f _ _).symm⟩
      · exact ⟨k, h1, h2, (swp_o f e1 e2).symm⟩
theorem srt_small (f : Nat → α) {a b : Nat} (h : b ≤ a + 1) : srt lt f a b := fun p q h1 h2 h3 => by omega
theorem srt_mono {f : Nat → α} {a b a' b' : Nat} (h : srt lt f a b) (h1 : a ≤ a') (h2 : b' ≤ b) : srt lt f a' b' := fun p q p1 p2 p3 => h p q (by omega) p2 (by omega)
theorem srt_same {f g : Nat → α} {a b : Nat} (h : srt lt f a b) (e : ∀ k, a ≤ k → k < b → g k = f k) : srt lt g a b := fun p q p1 p2 p3 => by
  rw [e p p1 (by omega), e q (by omega) p3]; exact h p q p1 p2 p3
theorem srt_from {f : Nat → α} {x y b : Nat} (h : srt lt f x b) (e : y = x) : srt lt f y b := by subst e; exact h
theorem srt_to {f : Nat → α} {x y a : Nat} (h : srt lt f a x) (e : y = x) : srt lt f a y := by subst e; exact h
/-- two sorted pieces, each element of the first no greater than each of the second -/
theorem srt_join {f : Nat → α} {a m b : Nat} (h1 : srt lt f a m) (h2 : srt lt f m b) (h : ∀ p q, a ≤ p → p < m → m ≤ q → q < b → lt (f q) (f p) = false) : srt lt f a b := by
  intro p q p1 p2 p3
  by_cases hq : q < m
  · exact h1 p q p1 p2 hq
  · by_cases hp : p < m
    · exact h p q p1 hp (by omega) p3
    · exact h2 p q (by omega) p2 p3
/-! insertion -/
/-- [a, i] is sorted but for the element at j, which is on its way down -/
def ins (lt : α → α → Bool) (f : Nat → α) (a j i : Nat) : Prop := ∀ p q, a ≤ p → p < q → q ≤ i → q ≠ j → lt (f q) (f p) = false
theorem ins_start {f : Nat → α} {a i : Nat} (h : srt lt f a i) : ins lt f a i i := fun p q p1 p2 p3 p4 => h p q p1 p2 (by omega)
theorem ins_step {f : Nat → α} {a j i : Nat} (O : Ordd lt) (h : ins lt f a j i) (hj : a < j ∧ j ≤ i) (hl : lt (f j) (f (j - 1)) = true) : ins lt (swp f j (j - 1)) a (j - 1) i := by
  intro p q p1 p2 p3 p4
  by_cases hq : q = j
  · subst hq
    rw [swp_l]
    by_cases hp : p = q - 1
    · subst hp; rw [swp_r]; exact O.asym _ _ hl
    · rw [swp_o f (by omega) hp]; exact h p (q - 1) p1 (by omega) (by omega) (by omega)
  · rw [swp_o f hq p4]
    by_cases hp : p = j
    · subst hp; rw [swp_l]; exact h (p - 1) q (by omega) (by omega) p3 hq
    · by_cases hp2 : p = j - 1
      · subst hp2; rw [swp_r]; exact h j q (by omega) (by omega) p3 hq
      · rw [swp_o f hp hp2]; exact h p q p1 p2 p3 hq
theorem ins_end {f : Nat → α} {a j i : Nat} (O : Ordd lt) (h : ins lt f a j i) (hj : a ≤ j ∧ j ≤ i) (hs : j = a ∨ lt (f j) (f (j - 1)) = false) : srt lt f a (i + 1) := by
  intro p q p1 p2 p3
  by_cases hq : q = j
  · subst hq
    rcases hs with hs | hs
    · omega
    · by_cases hp : p = q - 1
      · subst hp; exact hs
      · exact O.trans _ _ _ (h p (q - 1) p1 (by omega) (by omega) (by omega)) hs
  · exact h p q p1 p2 (by omega) hq
/-! exchanging two ranges -/
def sr (f : Nat → α) (a b n : Nat) : Nat → α := fun k => if a ≤ k ∧ k < a + n then f (b + (k - a)) else if b ≤ k ∧ k < b + n then f (a + (k - b)) else f k
theorem sr_zero (f : Nat → α) (a b : Nat) : sr f a b 0 = f := by
  funext k; unfold sr; rw [if_neg (by omega), if_neg (by omega)]
theorem sr_a (f : Nat → α) {a b n k : Nat} (h : k < n) : sr f a b n (a + k) = f (b + k) := by
  unfold sr; rw [if_pos (by omega)]; congr 1; omega
theorem sr_b (f : Nat → α) {a b n k : Nat} (hd : a + n ≤ b) (h : k < n) : sr f a b n (b + k) = f (a + k) := by
  unfold sr; rw [if_neg (by omega), if_pos (by omega)]; congr 1; omega
theorem sr_o (f : Nat → α) {a b n k : Nat} (h1 : ¬ (a ≤ k ∧ k < a + n)) (h2 : ¬ (b ≤ k ∧ k < b + n)) : sr f a b n k = f k := by
  unfold sr; rw [if_neg h1, if_neg h2]
theorem sr_step (f : Nat → α) {a b n : Nat} (hd : a + n < b) : swp (sr f a b n) (a + n) (b + n) = sr f a b (n + 1) := by
  funext k
  by_cases h1 : k = a + n
  · subst h1; rw [swp_l, sr_o f (by omega) (by omega), sr_a f (Nat.lt_succ_self n)]
  · by_cases h2 : k = b + n
    · subst h2; rw [swp_r, sr_o f (by omega) (by omega), sr_b f (by omega) (Nat.lt_succ_self n)]
    · rw [swp_o _ h1 h2]
      unfold sr
      by_cases h3 : a ≤ k ∧ k < a + n
      · rw [if_pos h3, if_pos (by omega)]
      · rw [if_neg h3, if_neg (show ¬ (a ≤ k ∧ k < a + (n + 1)) by omega)]
        by_cases h4 : b ≤ k ∧ k < b + n
        · rw [if_pos h4, if_pos (by omega)]
        · rw [if_neg h4, if_neg (show ¬ (b ≤ k ∧ k < b + (n + 1)) by omega)]
/-! rotation -/
def rt (f : Nat → α) (a m b : Nat) : Nat → α := fun k => if a ≤ k ∧ k < a + (b - m) then f (m + (k - a)) else if a + (b - m) ≤ k ∧ k < b then f (k - (b - m)) else f k
/-- what is left to do: the blocks [m - i, m) and [m, m + j) of h are to change places to give G -/
structure Rot (G h : Nat → α) (m i j : Nat) : Prop where
  lo : ∀ k, k < j → G (m - i + k) = h (m + k)
  hi : ∀ k, k < i → G (m - i + j + k) = h (m - i + k)
  out : ∀ k, (k < m - i ∨ m + j ≤ k) → G k = h k
theorem Rot.start (f : Nat → α) {a m b : Nat} (h1 : a ≤ m) (h2 : m ≤ b) : Rot (rt f a m b) f m (m - a) (b - m) := by
  refine ⟨fun k hk => ?_, fun k hk => ?_, fun k hk => ?_⟩
  · unfold rt; rw [if_pos (by omega)]; congr 1; omega
  · unfold rt; rw [if_neg (by omega), if_pos (by omega)]; congr 1; omega
  · unfold rt; rw [if_neg (by omega), if_neg (by omega)]
theorem Rot.gt {G h : Nat → α} {m i j : Nat} (r : Rot G h m i j) (hi : i ≤ m) (hij : j < i) : Rot G (sr h (m - i) m j) m (i - j) j := by
  refine ⟨fun k hk => ?_, fun k hk => ?_, fun k hk => ?_⟩
  · rw [sr_b h (by omega) hk, ← r.hi k (by omega)]; congr 1; omega
  · rw [sr_o h (by omega) (by omega), show m - (i - j) + j + k = m - i + j + (j + k) by omega, r.hi (j + k) (by omega)]; congr 1; omega
  · by_cases h1 : m - i ≤ k ∧ k < m - i + j
    · rw [show k = m - i + (k - (m - i)) by omega, sr_a h (by omega), r.lo _ (by omega)]
    · rw [sr_o h h1 (by omega)]; exact r.out k (by omega)
theorem Rot.lss {G h : Nat → α} {m i j : Nat} (r : Rot G h m i j) (hi : i ≤ m) (hij : i < j) : Rot G (sr h (m - i) (m + j - i) i) m i (j - i) := by
  refine ⟨fun k hk => ?_, fun k hk => ?_, fun k hk => ?_⟩
  · rw [sr_o h (by omega) (by omega)]; exact r.lo k (by omega)
  · rw [sr_a h hk, show m - i + (j - i) + k = m - i + (j - i + k) by omega, r.lo (j - i + k) (by omega)]; congr 1; omega
  · by_cases h1 : m + j - i ≤ k ∧ k < m + j - i + i
    · rw [show k = m + j - i + (k - (m + j - i)) by omega, sr_b h (by omega) (by omega), show m + j - i + (k - (m + j - i)) = m - i + j + (k - (m + j - i)) by omega, r.hi _ (by omega)]
    · rw [sr_o h (by omega) h1]; exact r.out k (by omega)
theorem Rot.last {G h : Nat → α} {m i : Nat} (r : Rot G h m i i) (hi : i ≤ m) : sr h (m - i) m i = G := by
  funext k
  by_cases h1 : m - i ≤ k ∧ k < m - i + i
  · rw [show k = m - i + (k - (m - i)) by omega, sr_a h (by omega), r.lo _ (by omega)]
  · by_cases h2 : m ≤ k ∧ k < m + i
    · rw [show k = m + (k - m) by omega, sr_b h (by omega) (by omega), ← r.hi (k - m) (by omega)]; congr 1; omega
    · rw [sr_o h h1 h2, r.out k (by omega)]
theorem rt_lo (f : Nat → α) {a m b k : Nat} (h1 : a ≤ k) (h2 : k < a + (b - m)) : rt f a m b k = f (m + (k - a)) := by unfold rt; rw [if_pos ⟨h1, h2⟩]
theorem rt_hi (f : Nat → α) {a m b k : Nat} (h1 : a + (b - m) ≤ k) (h2 : k < b) : rt f a m b k = f (k - (b - m)) := by unfold rt; rw [if_neg (by omega), if_pos ⟨h1, h2⟩]
theorem rt_o (f : Nat → α) {a m b k : Nat} (h : a ≤ m ∧ m ≤ b) (h1 : k < a ∨ b ≤ k) : rt f a m b k = f k := by unfold rt; rw [if_neg (by omega), if_neg (by omega)]
theorem Mv.rt (f : Nat → α) {a m b : Nat} (h1 : a ≤ m) (h2 : m ≤ b) : Mv f (rt f a m b) a b := by
  refine ⟨fun k hk => rt_o f ⟨h1, h2⟩ hk, fun k k1 k2 => ?_, fun k k1 k2 => ?_⟩
  · by_cases h : k < a + (b - m)
    · exact ⟨_, by omega, by omega, rt_lo f k1 h⟩
    · exact ⟨_, by omega, by omega, rt_hi f (by omega) k2⟩
  · by_cases h : k < m
    · refine ⟨k + (b - m), by omega, by omega, ?_⟩
      rw [rt_hi f (by omega) (by omega)]; congr 1; omega
    · refine ⟨a + (k - m), by omega, by omega, ?_⟩
      rw [rt_lo f (by omega) (by omega)]; congr 1; omega
/-! one element moved up or down -/
def up1 (f : Nat → α) (a i : Nat) : Nat → α := fun k => if a ≤ k ∧ k < i then f (k + 1) else if k = i then f a else f k
def dn1 (f : Nat → α) (m i : Nat) : Nat → α := fun k => if i < k ∧ k ≤ m then f (k - 1) else if k = i then f m else f k
theorem up1_zero (f : Nat → α) (a : Nat) : up1 f a a = f := by
  funext k; unfold up1; rw [if_neg (by omega)]; split
  · rename_i h; rw [h]
  · rfl
theorem up1_step (f : Nat → α) {a i : Nat} (h : a ≤ i) : swp (up1 f a i) i (i + 1) = up1 f a (i + 1) := by
  funext k
  by_cases h1 : k = i
  · subst h1; rw [swp_l]; unfold up1; rw [if_neg (by omega), if_neg (by omega), if_pos (by omega)]
  · by_cases h2 : k = i + 1
    · subst h2; rw [swp_r]; unfold up1; rw [if_neg (by omega), if_pos rfl, if_neg (by omega), if_pos rfl]
    · rw [swp_o _ h1 h2]; unfold up1
      by_cases h3 : a ≤ k ∧ k < i
      · rw [if_pos h3, if_pos (by omega)]
      · rw [if_neg h3, if_neg h1, if_neg (show ¬ (a ≤ k ∧ k < i + 1) by omega), if_neg h2]
theorem dn1_zero (f : Nat → α) (m : Nat) : dn1 f m m = f := by
  funext k; unfold dn1; rw [if_neg (by omega)]; split
  · rename_i h; rw [h]
  · rfl
theorem dn1_step (f : Nat → α) {m i : Nat} (h : i < m) : swp (dn1 f m (i + 1)) (i + 1) i = dn1 f m i := by
  funext k
  by_cases h1 : k = i + 1
  · subst h1; rw [swp_l]; unfold dn1; rw [if_neg (by omega), if_neg (by omega), if_pos (by omega)]; congr 1
  · by_cases h2 : k = i
    · subst h2; rw [swp_r]; unfold dn1; rw [if_neg (by omega), if_pos rfl, if_neg (by omega), if_pos rfl]
    · rw [swp_o _ h1 h2]; unfold dn1
      by_cases h3 : i + 1 < k ∧ k ≤ m
      · rw [if_pos h3, if_pos (by omega)]
      · rw [if_neg h3, if_neg h1, if_neg (show ¬ (i < k ∧ k ≤ m) by omega), if_neg h2]
theorem Mv.up1 (f : Nat → α) {a i b : Nat} (h1 : a ≤ i) (h2 : i < b) : Mv f (up1 f a i) a b := by
  refine ⟨fun k hk => by unfold Yteeopgpgbdhmhaa.up1; rw [if_neg (by omega), if_neg (by omega)], fun k k1 k2 => ?_, fun k k1 k2 => ?_⟩
  · unfold Yteeopgpgbdhmhaa.up1
    by_cases h : a ≤ k ∧ k < i
    · exact ⟨k + 1, by omega, by omega, by rw [if_pos h]⟩
    · by_cases h3 : k = i
      · exact ⟨a, by omega, by omega, by rw [if_neg h, if_pos h3]⟩
      · exact ⟨k, k1, k2, by rw [if_neg h, if_neg h3]⟩
  · unfold Yteeopgpgbdhmhaa.up1
    by_cases h : k = a
    · exact ⟨i, by omega, h2, by rw [if_neg (by omega), if_pos rfl, h]⟩
    · by_cases h3 : k ≤ i
      · exact ⟨k - 1, by omega, by omega, by rw [if_pos (by omega)]; congr 1; omega⟩
      · exact ⟨k, k1, k2, by rw [if_neg (by omega), if_neg (by omega)]⟩
theorem Mv.dn1 (f : Nat → α) {a i m b : Nat} (h1 : a ≤ i) (h2 : i ≤ m) (h3 : m < b) : Mv f (dn1 f m i) a b := by
  refine ⟨fun k hk => by unfold Yteeopgpgbdhmhaa.dn1; rw [if_neg (by omega), if_neg (by omega)], fun k k1 k2 => ?_, fun k k1 k2 => ?_⟩
  · unfold Yteeopgpgbdhmhaa.dn1
    by_cases h : i < k ∧ k ≤ m
    · exact ⟨k - 1, by omega, by omega, by rw [if_pos h]⟩
    · by_cases h4 : k = i
      · exact ⟨m, by omega, by omega, by rw [if_neg h, if_pos h4]⟩
      · exact ⟨k, k1, k2, by rw [if_neg h, if_neg h4]⟩
  · unfold Yteeopgpgbdhmhaa.dn1
    by_cases h : k = m
    · exact ⟨i, h1, by omega, by rw [if_neg (by omega), if_pos rfl, h]⟩
    · by_cases h4 : i ≤ k ∧ k < m
      · exact ⟨k + 1, by omega, by omega, by rw [if_pos (by omega)]; congr 1⟩
      · exact ⟨k, k1, k2, by rw [if_neg (by omega), if_neg (by omega)]⟩
/-- the first element of [a, a + 1), put behind all of [a + 1, i + 1) that are less -/
theorem up1_srt {f : Nat → α} {a i b : Nat} (O : Ordd lt) (hs : srt lt f (a + 1) b) (hi : a ≤ i ∧ i < b) (h1 : ∀ k, a + 1 ≤ k → k ≤ i → lt (f k) (f a) = true) (h2 : ∀ k, i < k → k < b → lt (f k) (f a) = false) : srt lt (up1 f a i) a b := by
  intro p q p1 p2 p3
  unfold up1
  by_cases hq : q < i
  · rw [if_pos ⟨by omega, hq⟩, if_pos ⟨p1, by omega⟩]; exact hs _ _ (by omega) (by omega) (by omega)
  · by_cases hq2 : q = i
    · rw [if_neg (by omega), if_pos hq2, if_pos ⟨p1, by omega⟩]; exact O.asym _ _ (h1 _ (by omega) (by omega))
    · rw [if_neg (show ¬ (a ≤ q ∧ q < i) by omega), if_neg hq2]
      by_cases hp : p < i
      · rw [if_pos ⟨p1, hp⟩]; exact hs _ _ (by omega) (by omega) p3
      · by_cases hp2 : p = i
        · rw [if_neg (by omega), if_pos hp2]; exact h2 _ (by omega) p3
        · rw [if_neg (by omega), if_neg hp2]; exact hs _ _ (by omega) p2 p3
/-- the last element, put ahead of all that it is less than -/
theorem dn1_srt {f : Nat → α} {a i m : Nat} (O : Ordd lt) (hs : srt lt f a m) (hi : a ≤ i ∧ i ≤ m) (h1 : ∀ k, a ≤ k → k < i → lt (f m) (f k) = false) (h2 : ∀ k, i ≤ k → k < m → lt (f m) (f k) = true) : srt lt (dn1 f m i) a (m + 1) := by
  intro p q p1 p2 p3
  unfold dn1
  by_cases hp : i < p
  · rw [if_pos ⟨by omega, by omega⟩, if_pos ⟨hp, by omega⟩]; exact hs _ _ (by omega) (by omega) (by omega)
  · by_cases hp2 : p = i
    · rw [if_pos ⟨by omega, by omega⟩, if_neg (by omega), if_pos hp2]; exact O.asym _ _ (h2 _ (by omega) (by omega))
    · rw [if_neg (show ¬ (i < p ∧ p ≤ m) by omega), if_neg hp2]
      by_cases hq : i < q
      · rw [if_pos ⟨hq, by omega⟩]; exact hs _ _ p1 (by omega) (by omega)
      · by_cases hq2 : q = i
        · rw [if_neg (by omega), if_pos hq2]; exact h1 _ p1 (by omega)
        · rw [if_neg (by omega), if_neg hq2]; exact hs _ _ p1 p2 (by omega)
/-! the merge -/
theorem merge_cross {f : Nat → α} {a m b mid st : Nat} (O : Ordd lt) (s1 : srt lt f a m) (s2 : srt lt f m b) (ha : a < m) (hb : m < b) (hmid : mid = (a + b) / 2) (hst : a ≤ st ∧ st ≤ m ∧ st ≤ mid ∧ mid + m ≤ st + b)
    (h1 : st = a ∨ mid + m - st = b ∨ lt (f (mid + m - st)) (f (st - 1)) = false) (h2 : st = m ∨ st = mid ∨ lt (f (mid + m - st - 1)) (f st) = true) :
    ∀ x y, ((a ≤ x ∧ x < st) ∨ (m ≤ x ∧ x < mid + m - st)) → ((st ≤ y ∧ y < m) ∨ (mid + m - st ≤ y ∧ y < b)) → lt (f y) (f x) = false := by
  have le_of : ∀ p q, p ≤ q → ((a ≤ p ∧ q < m) ∨ (m ≤ p ∧ q < b)) → lt (f q) (f p) = false := by
    intro p q hpq hh
    by_cases e : p = q
    · subst e
      cases hl : lt (f p) (f p) with
      | false => rfl
      | true => have := O.asym _ _ hl; rw [hl] at this; exact this
    · rcases hh with hh | hh
      · exact s1 p q hh.1 (by omega) hh.2
      · exact s2 p q hh.1 (by omega) hh.2
  intro x y hx hy
  rcases hx with hx | hx
  · rcases hy with hy | hy
    · exact le_of x y (by omega) (.inl ⟨hx.1, hy.2⟩)
    · rcases h1 with h1 | h1 | h1
      · omega
      · omega
      · exact O.trans _ _ _ (O.trans _ _ _ (le_of x (st - 1) (by omega) (.inl ⟨hx.1, by omega⟩)) h1) (le_of (mid + m - st) y hy.1 (.inr ⟨by omega, hy.2⟩))
  · rcases hy with hy | hy
    · rcases h2 with h2 | h2 | h2
      · omega
      · omega
      · exact O.trans _ _ _ (O.trans _ _ _ (le_of x (mid + m - st - 1) (by omega) (.inr ⟨hx.1, by omega⟩)) (O.asym _ _ h2)) (le_of st y hy.1 (.inl ⟨by omega, hy.2⟩))
    · exact le_of x y (by omega) (.inr ⟨hx.1, hy.2⟩)
theorem merge_rot {f : Nat → α} {a m b mid st : Nat} (O : Ordd lt) (s1 : srt lt f a m) (s2 : srt lt f m b) (ha : a < m) (hb : m < b) (hmid : mid = (a + b) / 2) (hst : a ≤ st ∧ st ≤ m ∧ st ≤ mid ∧ mid + m ≤ st + b)
    (h1 : st = a ∨ mid + m - st = b ∨ lt (f (mid + m - st)) (f (st - 1)) = false) (h2 : st = m ∨ st = mid ∨ lt (f (mid + m - st - 1)) (f st) = true) :
    srt lt (rt f st m (mid + m - st)) a st ∧ srt lt (rt f st m (mid + m - st)) st mid ∧ srt lt (rt f st m (mid + m - st)) mid (mid + m - st) ∧ srt lt (rt f st m (mid + m - st)) (mid + m - st) b ∧
    ∀ p q, a ≤ p → p < mid → mid ≤ q → q < b → lt (rt f st m (mid + m - st) q) (rt f st m (mid + m - st) p) = false := by
  have cr := merge_cross O s1 s2 ha hb hmid hst h1 h2
  refine ⟨srt_same (srt_mono s1 (Nat.le_refl _) hst.2.1) fun k k1 k2 => rt_o f ⟨hst.2.1, by omega⟩ (by omega), ?_, ?_, srt_same (srt_mono s2 (by omega) (Nat.le_refl _)) fun k k1 k2 => rt_o f ⟨hst.2.1, by omega⟩ (by omega), ?_⟩
  · intro p q p1 p2 p3
    rw [rt_lo f (by omega) (by omega), rt_lo f (by omega) (by omega)]
    exact s2 _ _ (by omega) (by omega) (by omega)
  · intro p q p1 p2 p3
    rw [rt_hi f (by omega) (by omega), rt_hi f (by omega) (by omega)]
    exact s1 _ _ (by omega) (by omega) (by omega)
  · intro p q p1 p2 p3 p4
    have ep : ∃ x, rt f st m (mid + m - st) p = f x ∧ ((a ≤ x ∧ x < st) ∨ (m ≤ x ∧ x < mid + m - st)) := by
      by_cases h : p < st
      · exact ⟨p, rt_o f ⟨hst.2.1, by omega⟩ (.inl h), .inl ⟨p1, h⟩⟩
      · exact ⟨_, rt_lo f (by omega) (by omega), .inr ⟨by omega, by omega⟩⟩
    have eq : ∃ y, rt f st m (mid + m - st) q = f y ∧ ((st ≤ y ∧ y < m) ∨ (mid + m - st ≤ y ∧ y < b)) := by
      by_cases h : q < mid + m - st
      · exact ⟨_, rt_hi f (by omega) h, .inl ⟨by omega, by omega⟩⟩
      · exact ⟨q, rt_o f ⟨hst.2.1, by omega⟩ (.inr (by omega)), .inr ⟨by omega, p4⟩⟩
    obtain ⟨x, e1, hx⟩ := ep
    obtain ⟨y, e2, hy⟩ := eq
    rw [e1, e2]; exact cr x y hx hy
/-- two sorted halves, each shuffled within itself and sorted -/
theorem merge_end {f g h : Nat → α} {a mid b : Nat} (hm : a ≤ mid ∧ mid ≤ b) (m1 : Mv f g a mid) (m2 : Mv g h mid b) (s1 : srt lt g a mid) (s2 : srt lt h mid b) (cr : ∀ p q, a ≤ p → p < mid → mid ≤ q → q < b → lt (f q) (f p) = false) : Mv f h a b ∧ srt lt h a b := by
  refine ⟨(m1.mono (Nat.le_refl _) hm.2).trans (m2.mono hm.1 (Nat.le_refl _)), srt_join (srt_same s1 fun k k1 k2 => m2.out k (.inl k2)) s2 ?_⟩
  intro p q p1 p2 p3 p4
  rw [m2.out p (.inl p2)]
  obtain ⟨j, j1, j2, e⟩ := m1.to p p1 p2
  obtain ⟨i, i1, i2, e2⟩ := m2.to q p3 p4
  rw [e, e2, m1.out i (.inr i1)]
  exact cr j i j1 j2 i1 i2
theorem rt_id (f : Nat → α) {a m b : Nat} (h : a ≤ m ∧ m ≤ b) (h1 : a = m ∨ m = b) : rt f a m b = f := by
  funext k
  unfold rt
  by_cases c1 : a ≤ k ∧ k < a + (b - m)
  · rw [if_pos c1]; congr 1; omega
  · rw [if_neg c1]
    by_cases c2 : a + (b - m) ≤ k ∧ k < b
    · rw [if_pos c2]; congr 1; omega
    · rw [if_neg c2]
theorem dn1_step2 (f : Nat → α) {m k : Nat} (h1 : 1 ≤ k) (h2 : k ≤ m) : swp (dn1 f m k) k (k - 1) = dn1 f m (k - 1) := by
  have := dn1_step f (m := m) (i := k - 1) (by omega)
  rwa [show k - 1 + 1 = k by omega] at this
theorem bs_lo {f : Nat → α} {a m b h k : Nat} (O : Ordd lt) (s2 : srt lt f m b) (hl : lt (f h) (f a) = true) (hk : m ≤ k ∧ k ≤ h) (hb : h < b) : lt (f k) (f a) = true := by
  by_cases e : k = h
  · rw [e]; exact hl
  · cases hc : lt (f k) (f a) with
    | true => rfl
    | false => have := O.trans _ _ _ hc (s2 k h hk.1 (by omega) hb); rw [hl] at this; cases this
theorem bs_hi {f : Nat → α} {a m b h k : Nat} (O : Ordd lt) (s2 : srt lt f m b) (hl : lt (f h) (f a) = false) (hk : h ≤ k ∧ k < b) (hm : m ≤ h) : lt (f k) (f a) = false := by
  by_cases e : k = h
  · rw [e]; exact hl
  · exact O.trans _ _ _ hl (s2 h k hm (by omega) hk.2)
theorem bt_lo {f : Nat → α} {a m z h k : Nat} (O : Ordd lt) (s1 : srt lt f a m) (hl : lt (f z) (f h) = false) (hk : a ≤ k ∧ k ≤ h) (hm : h < m) : lt (f z) (f k) = false := by
  by_cases e : k = h
  · rw [e]; exact hl
  · exact O.trans _ _ _ (s1 k h hk.1 (by omega) hm) hl
theorem bt_hi {f : Nat → α} {a m z h k : Nat} (O : Ordd lt) (s1 : srt lt f a m) (hl : lt (f z) (f h) = true) (hk : h ≤ k ∧ k < m) (ha : a ≤ h) : lt (f z) (f k) = true := by
  by_cases e : k = h
  · rw [e]; exact hl
  · cases hc : lt (f z) (f k) with
    | true => rfl
    | false => have := O.trans _ _ _ (s1 h k ha (by omega) hk.2) hc; rw [hl] at this; cases this
/-! blocks -/
theorem dv_lt {d x y : Nat} (hx : d ∣ x) (hy : d ∣ y) (h : x < y) : x + d ≤ y := by
  obtain ⟨p, rfl⟩ := hx
  obtain ⟨q, rfl⟩ := hy
  have hpq : p < q := Nat.lt_of_mul_lt_mul_left h
  have : d * (p + 1) ≤ d * q := Nat.mul_le_mul_left _ hpq
  rwa [Nat.mul_succ] at this
def bks (lt : α → α → Bool) (f : Nat → α) (d n : Nat) : Prop := ∀ a, d ∣ a → srt lt f a (min (a + d) n)
def don (lt : α → α → Bool) (f : Nat → α) (a d : Nat) : Prop := ∀ a', d ∣ a' → a' + d ≤ a → srt lt f a' (a' + d)
def rst (lt : α → α → Bool) (f : Nat → α) (a d n : Nat) : Prop := ∀ a', d ∣ a' → a ≤ a' → srt lt f a' (min (a' + d) n)
theorem don_start (f : Nat → α) {d : Nat} (h : 1 ≤ d) : don lt f 0 d := fun a' _ h2 => by omega
theorem don_step {f g : Nat → α} {a d : Nat} (h : don lt f a d) (m : Mv f g a (a + d)) (s : srt lt g a (a + d)) (ha : d ∣ a) : don lt g (a + d) d := by
  intro a' h1 h2
  rcases Nat.lt_or_ge a' a with h3 | h3
  · have := dv_lt h1 ha h3
    exact srt_same (h a' h1 this) fun k k1 k2 => m.out k (.inl (by omega))
  · obtain rfl : a' = a := by omega
    exact s
theorem bks_end {f g : Nat → α} {a d n : Nat} (h : don lt f a d) (m : Mv f g a n) (s : srt lt g a n) (ha : d ∣ a) (h1 : a ≤ n) (h2 : n < a + d) : bks lt g d n := by
  intro a' k1
  rcases Nat.lt_or_ge a' a with h3 | h3
  · have := dv_lt k1 ha h3
    rw [Nat.min_eq_left (by omega)]
    exact srt_same (h a' k1 this) fun k k1 k2 => m.out k (.inl (by omega))
  · rw [Nat.min_eq_right (by omega)]
    exact srt_mono s h3 (Nat.le_refl _)
theorem rst_start {f : Nat → α} {d n : Nat} (h : bks lt f d n) : rst lt f 0 d n := fun a' h1 _ => h a' h1
theorem rst_step {f g : Nat → α} {a b d n : Nat} (h : rst lt f a d n) (m : Mv f g a b) (hab : a ≤ b) : rst lt g b d n := fun a' h1 h2 => srt_same (h a' h1 (by omega)) fun k k1 k2 => m.out k (.inr (by omega))
theorem dv_two {d a : Nat} (h : 2 * d ∣ a) : d ∣ a := Nat.dvd_trans (Nat.dvd_mul_left d 2) h
theorem dv_add {d a : Nat} (h : d ∣ a) : d ∣ a + d := Nat.dvd_add h (Nat.dvd_refl d)
end
end Go.Proofs.Yteeopgpgbdhmhaa
