/- The row of signed votes under the library's sort. No condition. -/
import Derived.Test.YteeopgpgbdhmhaaSv
namespace Go.Proofs.Yteeopgpgbdhmhaa
open Go.RowKit Go.Lib
set_option linter.unusedVariables false
set_option linter.unusedSimpArgs false
section
variable {P : Program} {w : World}
theorem run_storeVarA {t T : TypeId} {g o s : Nat} {l c : List Value} (hs : ∀ w, (sizeOf t).run P w = .ok s w) (hb : Blk w g l T) (hc : c.length = s) (hv : c.all plainV = true) (ho : o + s ≤ l.length) :
    ∃ w', (storeVar t ⟨g, o, none⟩ (.agg c.toArray)).run P w = .ok () w' ∧ Kp g w w' ∧ Blk w' g (l.take o ++ c ++ l.drop (o + c.length)) T := by
  obtain ⟨w', h1, h2, h3⟩ := run_storeCells (P := P) (o := o) c w l 0 hb hv (by omega)
  refine ⟨w', ?_, h2, by simpa using h3⟩
  simp only [storeVar, Value.cells]
  simp [hs, hc, h1]
theorem Blk.neT {g g' : Nat} {l l' : List Value} {T T' : TypeId} (h : Blk w g l T) (h' : Blk w g' l' T') (hT : Nat.beq T T' = false) : g ≠ g' := by
  rintro rfl
  have e : w.heap[g]? = _ := h
  have e' : w.heap[g]? = _ := h'
  rw [e] at e'
  simp only [Option.some.injEq, Obj.cells.injEq] at e'
  rw [e'.2.1] at hT; simp at hT
end
section
variable {α : Type} {C : Cd α}
theorem cs_piece {xs : List α} {i : Nat} {x : α} (tl : List Value) (h : xs[i]? = some x) : ((C.cs xs ++ tl).drop (i * C.sz)).take C.sz = C.l x := by
  obtain ⟨hi, rfl⟩ := List.getElem?_eq_some_iff.1 h
  have hle : (i + 1) * C.sz ≤ xs.length * C.sz := Nat.mul_le_mul_right _ hi
  rw [Nat.succ_mul] at hle
  have hd := cs_drop (C := C) xs i
  rw [List.drop_eq_getElem_cons hi] at hd
  rw [List.drop_append_of_le_length (by rw [cs_len]; omega), ← hd]
  simp only [Cd.cs, List.flatMap_cons, List.append_assoc]
  exact List.take_left' (C.len _)
theorem cs_set_tail {xs : List α} {i : Nat} (y : α) (tl : List Value) (hi : i < xs.length) : (C.cs xs ++ tl).take (i * C.sz) ++ C.l y ++ (C.cs xs ++ tl).drop (i * C.sz + (C.l y).length) = C.cs (xs.set i y) ++ tl := by
  have hle : (i + 1) * C.sz ≤ xs.length * C.sz := Nat.mul_le_mul_right _ hi
  rw [Nat.succ_mul] at hle
  rw [cs_set y hi, List.take_append_of_le_length (by rw [cs_len]; omega), List.drop_append_of_le_length (by rw [cs_len, C.len]; omega), List.append_assoc, List.append_assoc, List.append_assoc]
end
def lsf (n : Nat) (f : Nat → Sg) : List Sg := (List.range n).map f
theorem lsf_len (n : Nat) (f : Nat → Sg) : (lsf n f).length = n := by simp [lsf]
theorem lsf_at {n i : Nat} (f : Nat → Sg) (h : i < n) : (lsf n f)[i]? = some (f i) := by simp [lsf, h]
theorem lsf_swp {n i j : Nat} (f : Nat → Sg) (hi : i < n) (hj : j < n) : ((lsf n f).set i (f j)).set j (f i) = lsf n (swp f i j) := by
  apply List.ext_getElem?
  intro k
  by_cases hk : k < n
  · rw [lsf_at _ hk, List.getElem?_set, List.getElem?_set]
    by_cases h1 : k = j
    · subst h1; simp [lsf_len, hk, swp_r]
    · rw [if_neg (Ne.symm h1)]
      by_cases h2 : k = i
      · subst h2; simp [lsf_len, hk, swp_l]
      · rw [if_neg (Ne.symm h2), lsf_at _ hk, swp_o f h2 h1]
  · rw [List.getElem?_eq_none (by simp [lsf_len]; omega), List.getElem?_eq_none (by simp [lsf_len]; omega)]
/-- The row in block g holds f; the variable in block aT holds the slice. -/
structure RowS (g n cap aT lo : Nat) (tl : List Value) (f : Nat → Sg) (W : World) : Prop where
  row : Blk W g (cS.cs (lsf n f) ++ tl) 53
  cell : Blk W aT [.slice (some ⟨g, 0, none⟩) n cap] 46
  ok : ∀ k, k < n → (f k).okf lo W
section
variable {g n cap aT lo : Nat} {tl : List Value} {f : Nat → Sg} {W W' : World}
theorem RowS.ext (h : RowS g n cap aT lo tl f W) (e : Ext W W') : RowS g n cap aT lo tl f W' := ⟨h.row.ext e, h.cell.ext e, fun k hk => (h.ok k hk).fb (Fb.ext e)⟩
theorem RowS.ls (h : RowS g n cap aT lo tl f W) (hc : n ≤ cap) (hm : cap ≤ 9223372036854775807) : Ls cS lo W (.slice (some ⟨g, 0, none⟩) n cap) (lsf n f) := by
  refine ⟨⟨by rw [cs_len], some ⟨g, 0, none⟩, cap, by rw [lsf_len], by rw [lsf_len]; exact hc, hm, (by intro e; cases e), fun j u hu => ⟨_, rfl, ?_⟩⟩, fun x hx => ?_⟩
  · have hj : j < (cS.cs (lsf n f)).length := (List.getElem?_eq_some_iff.1 hu).1
    rw [add_none, Nat.zero_add, h.row.cell, List.getElem?_append_left hj]; exact hu
  · obtain ⟨k, hk⟩ := List.getElem?_of_mem hx
    have hkn : k < n := by have := (List.getElem?_eq_some_iff.1 hk).1; rwa [lsf_len] at this
    rw [lsf_at f hkn] at hk; cases hk; exact h.ok k hkn
theorem run_swapS (h : RowS g n cap aT lo tl f W) (hlo : lo ≤ g) {i j : Nat} (hi : i < n) (hj : j < n) :
    ∃ W', (Extern.ReflectliteSwapper.swap false #[.int .i64 (i : Int), .int .i64 (j : Int), .slice (some ⟨g, 0, none⟩) n cap, typeHandle Try.prog 53]).run Try.prog W = .ok (.tuple #[]) W' ∧ Chg g W W' ∧ RowS g n cap aT lo tl (swp f i j) W' := by
  have hsz : cS.sz = 23 := rfl
  have hlen : (cS.cs (lsf n f)).length = n * 23 := by rw [cs_len, lsf_len]; rfl
  have hne : aT ≠ g := h.cell.neT h.row rfl
  have e1 := cs_piece (C := cS) tl (lsf_at f hi)
  have e2 := cs_piece (C := cS) tl (lsf_at f hj)
  rw [hsz] at e1 e2
  have l1 := run_loadVarA (P := Try.prog) Try.isAgg53 Try.sizeOf53 h.row e1 (Nat.ble_eq_true_of_le (by rw [List.length_append, hlen]; omega))
  have l2 := run_loadVarA (P := Try.prog) Try.isAgg53 Try.sizeOf53 h.row e2 (Nat.ble_eq_true_of_le (by rw [List.length_append, hlen]; omega))
  obtain ⟨w1, s1, k1, b1⟩ := run_storeVarA (P := Try.prog) Try.sizeOf53 h.row (cS.len (f j)) (cS.pl (f j)) (o := i * 23) (by rw [List.length_append, hlen]; omega)
  have c1 := cs_set_tail (C := cS) (f j) tl (show i < (lsf n f).length by rw [lsf_len]; exact hi)
  rw [hsz] at c1
  rw [c1] at b1
  have hlen2 : (cS.cs ((lsf n f).set i (f j))).length = n * 23 := by rw [cs_len, List.length_set, lsf_len]; rfl
  obtain ⟨w2, s2, k2, b2⟩ := run_storeVarA (P := Try.prog) Try.sizeOf53 b1 (cS.len (f i)) (cS.pl (f i)) (o := j * 23) (by rw [List.length_append, hlen2]; omega)
  have c2 := cs_set_tail (C := cS) (f i) tl (show j < ((lsf n f).set i (f j)).length by rw [List.length_set, lsf_len]; exact hj)
  rw [hsz] at c2
  rw [c2, lsf_swp f hi hj] at b2
  have fb : Fb lo W w2 := (Fb.kp k1 hlo (Blk.notB h.row rfl)).trans (Fb.kp k2 hlo (Blk.notB b1 rfl))
  refine ⟨w2, ?_, ⟨k2.os.trans k1.os, k2.tape.trans k1.tape, k2.output.trans k1.output, Nat.le_of_eq (k2.size.trans k1.size).symm, fun k _ hk => (k2.block k hk).trans (k1.block k hk)⟩, b2, (h.cell.kp k1 hne).kp k2 hne, fun k hk => ?_⟩
  · have i0 : ¬ ((i : Int) < 0) := by omega
    have i1 : ¬ ((i : Int) ≥ n) := by omega
    have j0 : ¬ ((j : Int) < 0) := by omega
    have j1 : ¬ ((j : Int) ≥ n) := by omega
    obtain ⟨ie, hie, hsize, _⟩ := tinfo53
    rw [rl_swap]
    simp [i0, i1, j0, j1, Extern.Rtype.ofHandle, handleType, typeHandle, Extern.ReflectliteSwapper.exchange, sizeOf, rl_info 53 ie hie, hsize, add_none, l1, l2, s1, s2, Result.andThen]
  · by_cases h1 : k = i
    · subst h1; rw [swp_l]; exact (h.ok j hj).fb fb
    · by_cases h2 : k = j
      · subst h2; rw [swp_r]; exact (h.ok i hi).fb fb
      · rw [swp_o f h1 h2]; exact (h.ok k hk).fb fb
end
end Go.Proofs.Yteeopgpgbdhmhaa
