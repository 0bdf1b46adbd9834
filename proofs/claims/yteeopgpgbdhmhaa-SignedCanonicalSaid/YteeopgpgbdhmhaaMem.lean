/- Slices: what they read as, what the call itself owns; append, make, copy. No condition. -/
import Derived.Test.YteeopgpgbdhmhaaRun
import Derived.Laws.AppendOwnNone
namespace Go.Proofs.Yteeopgpgbdhmhaa
open Go.RowKit
set_option linter.unusedSimpArgs false
set_option linter.unusedVariables false
/-- The slice v, of m elements of sz cells each, reads as the cells cs. -/
def Rs (w : World) (v : Value) (m sz : Nat) (cs : List Value) : Prop :=
  cs.length = m * sz ∧ ∃ A c, v = .slice A m c ∧ m ≤ c ∧ c ≤ 9223372036854775807 ∧ (A = none → c = 0) ∧ ∀ j u, cs[j]? = some u → ∃ ad, A = some ad ∧ w.cell? (ad.add j) = some u
theorem add_add' (a : Addr) (i j : Nat) : (a.add i).add j = a.add (i + j) := by
  simp only [Addr.add]
  by_cases h : i = 0
  · subst h; simp
  · by_cases h2 : j = 0
    · subst h2; simp [h]
    · simp [h, h2, Nat.add_assoc]
theorem cell_ext {w w' : World} {a : Addr} {v : Value} (h : w.cell? a = some v) (e : Ext w w') : w'.cell? a = some v := (Below.cell e (World.block_lt_of_cell? w a h)).trans h
theorem Rs.ext {w w' : World} {v : Value} {m sz : Nat} {cs : List Value} (h : Rs w v m sz cs) (e : Ext w w') : Rs w' v m sz cs := by
  obtain ⟨hl, A, c, rfl, h1, h2, h3, h4⟩ := h
  refine ⟨hl, A, c, rfl, h1, h2, h3, fun j u hu => ?_⟩
  obtain ⟨ad, ha, hc⟩ := h4 j u hu
  exact ⟨ad, ha, cell_ext hc e⟩
def cutV (v : Value) (sz i j : Nat) : Value := match v with
  | .slice A _ c => .slice (if c = i then A else A.map (·.add (i * sz))) (j - i) (c - i)
  | _ => undef
def elV (v : Value) (k : Nat) : Value := match v with
  | .slice (some ad) _ _ => .pointer (some (ad.add k))
  | _ => undef
theorem Rs.cut {w : World} {v : Value} {m sz : Nat} {cs : List Value} (h : Rs w v m sz cs) {i j : Nat} (hij : i ≤ j) (hj : j ≤ m) : Rs w (cutV v sz i j) (j - i) sz ((cs.drop (i * sz)).take ((j - i) * sz)) := by
  obtain ⟨hl, A, c, rfl, h1, h2, h3, h4⟩ := h
  refine ⟨?_, _, _, rfl, by omega, by omega, ?_, ?_⟩
  · rw [List.length_take, List.length_drop, hl]
    have : (j - i) * sz ≤ m * sz - i * sz := by rw [← Nat.sub_mul]; exact Nat.mul_le_mul_right _ (by omega)
    omega
  · intro hA
    split at hA
    · have := h3 hA; omega
    · cases A with
      | none => have := h3 rfl; omega
      | some a => simp at hA
  · intro k u hu
    rw [List.getElem?_take] at hu
    split at hu
    · rw [List.getElem?_drop] at hu
      obtain ⟨ad, rfl, hc⟩ := h4 _ u hu
      by_cases hci : c = i
      · exfalso
        have : j - i = 0 := by omega
        rename_i hk
        rw [this] at hk
        omega
      · exact ⟨ad.add (i * sz), by simp [hci], by rw [add_add']; exact hc⟩
    · cases hu
theorem Rs.len {w : World} {v : Value} {m sz : Nat} {cs : List Value} (h : Rs w v m sz cs) : cs.length = m * sz := h.1
/-! ### rows of the call's own -/
theorem own_rs {w : World} {lo : Nat} {e : TypeId} {sz n : Nat} {v : Value} {xs : List Value} (h : w.ownsRow lo e sz v n xs) : Rs w v n sz xs := by
  obtain ⟨hl, h | ⟨g, cap, cur, rfl, hg, hb, h1, h2, h3, h4⟩⟩ := h
  · obtain ⟨rfl, rfl⟩ := h
    have : xs = [] := by simpa using hl
    subst this
    exact ⟨hl, none, 0, rfl, by omega, by omega, fun _ => rfl, by simp⟩
  · refine ⟨hl, _, cap, rfl, h1, by simpa [maxLen] using h2, by simp, fun j u hu => ⟨_, rfl, ?_⟩⟩
    have hj : j < n * sz := by rw [← hl]; exact (List.getElem?_eq_some_iff.1 hu).1
    have : (⟨g, 0, none⟩ : Addr).add j = ⟨g, j, none⟩ := by unfold Addr.add; split <;> simp_all
    rw [this]
    simp only [World.cell?, hb]
    rw [← h4, List.getElem?_take, if_pos hj] at hu
    simpa using hu
theorem own_ext {w w' : World} {lo : Nat} {e : TypeId} {sz n : Nat} {v : Value} {xs : List Value} (h : w.ownsRow lo e sz v n xs) (k : Ext w w') : w'.ownsRow lo e sz v n xs := by
  obtain ⟨hl, h | ⟨g, cap, cur, rfl, hg, hb, h1, h2, h3, h4⟩⟩ := h
  · exact ⟨hl, .inl h⟩
  · exact ⟨hl, .inr ⟨g, cap, cur, rfl, hg, (Below.block k g (Array.getElem?_eq_some_iff.1 hb).1).trans hb, h1, h2, h3, h4⟩⟩
theorem own_kp {w w' : World} {lo : Nat} {e : TypeId} {sz n g' : Nat} {v : Value} {xs : List Value} (h : w.ownsRow lo e sz v n xs) (k : Kp g' w w') (hn : v.ownBlock ≠ some g') : w'.ownsRow lo e sz v n xs := by
  obtain ⟨hl, h | ⟨g, cap, cur, rfl, hg, hb, h1, h2, h3, h4⟩⟩ := h
  · exact ⟨hl, .inl h⟩
  · have : g ≠ g' := fun e => hn (by subst e; rfl)
    exact ⟨hl, .inr ⟨g, cap, cur, rfl, hg, (k.block g this).trans hb, h1, h2, h3, h4⟩⟩
theorem own_lo {w : World} {lo : Nat} {e : TypeId} {sz n : Nat} {v : Value} {xs : List Value} (h : w.ownsRow lo e sz v n xs) {lo' : Nat} (hl : lo' ≤ lo) : w.ownsRow lo' e sz v n xs := by
  obtain ⟨hl, h | ⟨g, cap, cur, rfl, hg, hb, h1, h2, h3, h4⟩⟩ := h
  · exact ⟨hl, .inl h⟩
  · exact ⟨hl, .inr ⟨g, cap, cur, rfl, by omega, hb, h1, h2, h3, h4⟩⟩
theorem own_nil (w : World) (lo : Nat) (e : TypeId) (sz : Nat) : w.ownsRow lo e sz (.slice none 0 0) 0 [] := ⟨by simp, .inl ⟨rfl, rfl⟩⟩
theorem own_ge {w : World} {lo : Nat} {e : TypeId} {sz n : Nat} {v : Value} {xs : List Value} (h : w.ownsRow lo e sz v n xs) {k : Nat} (hk : v.ownBlock = some k) : lo ≤ k := by
  obtain ⟨_, ⟨rfl, _⟩ | ⟨g, cap, cur, rfl, hg, _⟩⟩ := h
  · cases hk
  · cases hk; exact hg
theorem own_lt {w : World} {lo : Nat} {e : TypeId} {sz n : Nat} {v : Value} {xs : List Value} (h : w.ownsRow lo e sz v n xs) {k : Nat} (hk : v.ownBlock = some k) : k < w.heap.size := by
  obtain ⟨_, ⟨rfl, _⟩ | ⟨g, cap, cur, rfl, hg, hb, _⟩⟩ := h
  · cases hk
  · cases hk; exact (Array.getElem?_eq_some_iff.1 hb).1
theorem own_neB {w : World} {lo : Nat} {e T : TypeId} {sz n b : Nat} {v : Value} {xs l : List Value} (h : w.ownsRow lo e sz v n xs) (hb : Blk w b l T) (hT : Nat.beq T e = false) : v.ownBlock ≠ some b := by
  obtain ⟨_, ⟨rfl, _⟩ | ⟨g, cap, cur, rfl, hg, hc, _⟩⟩ := h
  · simp [Value.ownBlock]
  · intro e'
    simp only [Value.ownBlock, Option.some.injEq] at e'
    subst e'
    have : w.heap[g]? = _ := hb
    rw [hc] at this
    simp only [Option.some.injEq, Obj.cells.injEq] at this
    rw [this.2.1] at hT
    simp at hT
theorem own_ne {w : World} {lo lo' : Nat} {e e' : TypeId} {sz sz' n n' : Nat} {v v' : Value} {xs xs' : List Value} (h : w.ownsRow lo e sz v n xs) (h' : w.ownsRow lo' e' sz' v' n' xs') (hT : Nat.beq e e' = false) : ∀ k, v.ownBlock = some k → v'.ownBlock ≠ some k := by
  intro k hk hk'
  obtain ⟨_, ⟨rfl, _⟩ | ⟨g, cap, cur, rfl, hg, hb, _⟩⟩ := h
  · cases hk
  · obtain ⟨_, ⟨rfl, _⟩ | ⟨g', cap', cur', rfl, hg', hb', _⟩⟩ := h'
    · cases hk'
    · cases hk; cases hk'
      rw [hb] at hb'
      simp only [Option.some.injEq, Obj.cells.injEq] at hb'
      rw [hb'.2.1] at hT
      simp at hT
/-- Two rows apart: one was there before the other was made. -/
theorem own_apart {w w' : World} {lo : Nat} {e e' : TypeId} {sz sz' n n' : Nat} {v v' : Value} {xs xs' : List Value} (h : w.ownsRow lo e sz v n xs) (h' : w'.ownsRow w.heap.size e' sz' v' n' xs') : ∀ k, v.ownBlock = some k → v'.ownBlock ≠ some k :=
  fun k hk hk' => by have := own_lt h hk; have := own_ge h' hk'; omega
theorem Ext.grown {a w w' : World} {row : Option Nat} (h : Ext a w) (g : w.grownBy w' row) (hr : ∀ k, row = some k → a.heap.size ≤ k) : Ext a w' := Below.grown h g (Ext.size h) hr
theorem Blk.grown {w w' : World} {b : Nat} {l : List Value} {T : TypeId} {row : Option Nat} (h : Blk w b l T) (g : w.grownBy w' row) (hr : row ≠ some b) : Blk w' b l T := (g.block b h.lt (fun e => hr e.symm)).trans h
theorem own_grown {w w' : World} {lo : Nat} {e : TypeId} {sz n : Nat} {v : Value} {xs : List Value} {row : Option Nat} (h : w.ownsRow lo e sz v n xs) (g : w.grownBy w' row) (hr : ∀ k, v.ownBlock = some k → row ≠ some k) : w'.ownsRow lo e sz v n xs := by
  obtain ⟨hl, h | ⟨b, cap, cur, rfl, hg, hb, h1, h2, h3, h4⟩⟩ := h
  · exact ⟨hl, .inl h⟩
  · exact ⟨hl, .inr ⟨b, cap, cur, rfl, hg, (g.block b (Array.getElem?_eq_some_iff.1 hb).1 (fun e => hr b rfl e.symm)).trans hb, h1, h2, h3, h4⟩⟩
theorem plain_one {u : Value} (h : plainV u = true) : u.oneCell' = true := by cases u <;> simp_all [plainV, Value.oneCell']
/-- The element type's row of the table. -/
def ElT (P : Program) (e : TypeId) (sz bytes : Nat) : Prop := ∃ i z, P.info? e = some i ∧ i.zero = some z ∧ i.size = sz ∧ i.bytes = bytes ∧ z.cells.size = sz
theorem run_append {P : Program} {w : World} {lo : Nat} {t ty e : TypeId} {sz bytes n m : Nat} {v u : Value} {xs news : List Value} (hI : ElT P e sz bytes) (hsz : 0 < sz) (ht : P.underlying t = some (.slice e)) (ho : w.ownsRow lo e sz v n xs) (hu : Rs w u m sz news) (hp : news.all plainV = true)
    (hb : (n + m) * bytes ≤ 140737488355328) (h63 : n + m ≤ 9223372036854775807) (hlo : lo ≤ w.heap.size) :
    ∃ v' w', (Builtin.append_ #[t, t] ty #[v, u]).run P w = .ok v' w' ∧ w'.ownsRow lo e sz v' (n + m) (xs ++ news) ∧ w.grownBy w' v.ownBlock := by
  obtain ⟨i, z, hi, hz, h1, h2, h3⟩ := hI
  obtain ⟨hl, A, c, rfl, hmc, hc63, hA, hcells⟩ := hu
  cases A with
  | some a =>
    obtain ⟨v', w', hr, h4, h5, _⟩ := run_append_own (P := P) w lo t ty e i z sz bytes ht hi hz h1 h2 h3 hsz v n xs ho a m c news hl (fun j u hj => by obtain ⟨ad, hAd, hc⟩ := hcells j u hj; cases hAd; exact hc) (fun u hu => plain_one (List.all_eq_true.1 hp u hu)) (by simpa [maxLen] using h63) hb hlo
    exact ⟨v', w', hr, h4, h5⟩
  | none =>
    have hc0 := hA rfl
    have hm0 : m = 0 := by omega
    subst hm0 hc0
    have hn : news = [] := by simpa using hl
    subst hn
    exact ⟨v, w, run_append_owned_none (P := P) (w := w) lo t ty e i sz ht hi v n xs ho, by simpa using ho, ⟨rfl, rfl, rfl, Nat.le_refl _, fun _ _ _ => rfl⟩⟩
/-! ### steps -/
section
variable {P : Program} {ops : Array Oper} {Q : Exit → Act → World → Prop} {K : Act → World → Prop} {n : Nat} {f : Nat → Value} {w : World} {d : Option Tmp} {ty : TypeId} {pos : String} {aft : Array Edge}
theorem D_append {lo : Nat} {t e : TypeId} {sz bytes k m : Nat} {s x : Operand} {v u : Value} {xs news : List Value} (hI : ElT P e sz bytes) (hsz : 0 < sz) (ht : P.underlying t = some (.slice e)) (hs : ov n f s = v) (hx : ov n f x = u) (ho : w.ownsRow lo e sz v k xs) (hu : Rs w u m sz news) (hp : news.all plainV = true)
    (hb : (k + m) * bytes ≤ 140737488355328) (h63 : k + m ≤ 9223372036854775807) (hlo : lo ≤ w.heap.size)
    (h : ∀ v' w', w'.ownsRow lo e sz v' (k + m) (xs ++ news) → w.grownBy w' v.ownBlock → K (E n (upo f d v')) w') :
    wpO P ops Q ⟨d, .call ⟨.builtin .append, #[s, x], #[t, t]⟩, ty, pos, aft, none⟩ K (E n f) w := by
  obtain ⟨v', w', h1, h2, h3⟩ := run_append (ty := ty) hI hsz ht ho hu hp hb h63 hlo
  refine D_v (v := v') (w' := w') ?_ (h v' w' h2 h3)
  simp only [execOp, resolve, invoke, builtin, Sem.run_bind, Sem.run_pure, Result.andThen_ok, List.map_toArray, List.map_cons, List.map_nil, hs, hx, h1]
theorem D_make {t e : TypeId} {sz bytes : Nat} {x y : Operand} {kl kc : IntKind} {l c : Nat} {z : Value} {i : TypeInfo} (hi : P.info? e = some i) (hz : i.zero = some z) (hsz : i.size = sz) (hby : i.bytes = bytes) (hzc : z.cells.size = sz) (ht : P.underlying t = some (.slice e))
    (hx : ov n f x = .int kl (l : Int)) (hy : ov n f y = .int kc (c : Int)) (hlc : l ≤ c) (hb : bytes * c ≤ 281474976710656) (h63 : c ≤ 9223372036854775807)
    (h : ∀ v' w', w'.ownsRow w.heap.size e sz v' l ((madeCells z.cells (c * sz)).toList.take (l * sz)) → Ext w w' → v' = .slice (some ⟨w.heap.size, 0, none⟩) l c → K (E n (upo f d v')) w') :
    wpO P ops Q ⟨d, .makeSlice t x y, ty, pos, aft, none⟩ K (E n f) w := by
  have h1 := run_make (P := P) (w := w) t e i z ht hi hz kl kc (l : Int) (c : Int) (by omega) (by omega) (by rw [hby]; omega) (by omega)
  simp only [Int.toNat_natCast] at h1
  have hsize : (madeCells z.cells (c * i.size)).size = c * i.size := by simp [madeCells]
  refine D_v (v := .slice (some ⟨w.heap.size, 0, none⟩) l c) (w' := w.alloc (.cells (madeCells z.cells (c * i.size)) e)) ?_ ?_
  · simp [go_sem, hx, hy, h1]
  · refine h _ _ ?_ (Ext.alloc _ _) rfl
    subst hsz
    refine ⟨?_, .inr ⟨w.heap.size, c, _, rfl, Nat.le_refl _, heap_alloc_new w _, hlc, by simpa [maxLen] using h63, hsize, rfl⟩⟩
    rw [List.length_take, Array.length_toList, hsize]
    exact Nat.min_eq_left (Nat.mul_le_mul_right _ hlc)
theorem D_buildSlice {t e : TypeId} {sz len : Nat} {parts : Array (Nat × Operand)} {vs : List (Nat × Value)} {z c : List Value} (ht : P.underlying t = some (.slice e)) (hs : ∀ w, (sizeOf e).run P w = .ok sz w) (hz : ∀ w, ∃ zv, (zeroValue e).run P w = .ok zv w ∧ zv.cells = z.toArray) (hsz : 0 < len * sz) (hbig : len * sz ≤ 16777216)
    (hv : parts.toList.map (fun p => (p.1, ov n f p.2)) = vs) (hf : Instr.fill (fun i => some (i * sz, sz)) ((Array.range (len * sz)).map fun x => z[x % z.length]?.getD default) vs = some c.toArray) (hc : c.length = len * sz)
    (h : ∀ v' w', w'.ownsRow w.heap.size e sz v' len c → Ext w w' → K (E n (upo f d v')) w') :
    wpO P ops Q ⟨d, .buildSlice t len parts, ty, pos, aft, none⟩ K (E n f) w := by
  refine D_v (v := .slice (some ⟨w.heap.size, 0, none⟩) len len) (w' := w.alloc (.cells c.toArray e)) ?_ ?_
  · obtain ⟨zv, hz1, hz2⟩ := hz w
    have hne : ¬ len * sz = 0 := by omega
    have hbg : ¬ 16777216 < len * sz := by omega
    unfold Value.cells at hz2
    simp only [go_sem, Instr.buildSlice, run_underlying ht, hs, hne, hbg, hz1, hv, if_false, Result.andThen_ok, Sem.run_bind, Sem.run_pure, Array.toList_map, gt_iff_lt, Nat.reducePow]
    simp [hz1, hz2, hv, hf, hs, go_sem]
  · refine h _ _ ⟨hc, .inr ⟨w.heap.size, len, _, rfl, Nat.le_refl _, heap_alloc_new w _, Nat.le_refl _, ?_, by simpa using hc, ?_⟩⟩ (Ext.alloc _ _)
    · simp only [maxLen]
      have : len ≤ len * sz := Nat.le_mul_of_pos_right _ (by rcases Nat.eq_zero_or_pos sz with h | h; · subst h; simp at hsz
                                                             · exact h)
      omega
    · simp [← hc]
end
section
variable {P : Program} {ρ : Operand → Value} {w : World} {dst : Option Tmp} {ty : TypeId} {pos : String} {aft : Array Edge} {gd : Option (Nat × Bool)}
theorem R_extract {x : Operand} {i : Nat} {vs : List Value} {v : Value} (hx : ρ x = .tuple vs.toArray) (hv : vs[i]? = some v) : (execOp ρ ⟨dst, .extract x i, ty, pos, aft, gd⟩).run P w = .ok (.value v) w := by
  simp [go_sem, hx, hv]
theorem R_len {w1 : World} {x : Operand} {v : Value} {m sz : Nat} {cs : List Value} {t e : TypeId} (ht : P.underlying t = some (.slice e)) (hx : ρ x = v) (h : Rs w1 v m sz cs) : (execOp ρ ⟨dst, .call ⟨.builtin .len, #[x], #[t]⟩, ty, pos, aft, gd⟩).run P w = .ok (.value (.int .i64 (m : Int))) w := by
  obtain ⟨_, A, c, rfl, _⟩ := h
  simp [go_sem, hx, Builtin.len_, run_underlying ht]
theorem R_sliceLo {w1 : World} {t e : TypeId} {x lo : Operand} {v : Value} {m sz : Nat} {cs : List Value} {k : IntKind} {i : Nat} (ht : P.underlying t = some (.slice e)) (hs : ∀ w, (sizeOf e).run P w = .ok sz w) (hx : ρ x = v) (hlo : ρ lo = .int k (i : Int)) (h : Rs w1 v m sz cs) (hi : i ≤ m) :
    (execOp ρ ⟨dst, .slice t x (some lo) none none, ty, pos, aft, gd⟩).run P w = .ok (.value (cutV v sz i m)) w := by
  obtain ⟨_, A, c, rfl, hm, _⟩ := h
  have : i ≤ c := by omega
  simp [go_sem, hx, hlo, Instr.sliceAt, Instr.slice, Instr.sliceBounds, Instr.sliceBound, run_underlying ht, hs, asIntOf, hi, cutV]
theorem R_sliceHi {w1 : World} {t e : TypeId} {x hi : Operand} {v : Value} {m sz : Nat} {cs : List Value} {k : IntKind} {j : Nat} (ht : P.underlying t = some (.slice e)) (hs : ∀ w, (sizeOf e).run P w = .ok sz w) (hx : ρ x = v) (hhi : ρ hi = .int k (j : Int)) (h : Rs w1 v m sz cs) (hj : j ≤ m) :
    (execOp ρ ⟨dst, .slice t x none (some hi) none, ty, pos, aft, gd⟩).run P w = .ok (.value (cutV v sz 0 j)) w := by
  obtain ⟨_, A, c, rfl, hm, _⟩ := h
  have h1 : j ≤ c := by omega
  simp [go_sem, hx, hhi, Instr.sliceAt, Instr.slice, Instr.sliceBounds, Instr.sliceBound, run_underlying ht, hs, asIntOf, h1, cutV]
theorem R_sliceLH {w1 : World} {t e : TypeId} {x lo hi : Operand} {v : Value} {m sz : Nat} {cs : List Value} {k k' : IntKind} {i j : Nat} (ht : P.underlying t = some (.slice e)) (hs : ∀ w, (sizeOf e).run P w = .ok sz w) (hx : ρ x = v) (hlo : ρ lo = .int k (i : Int)) (hhi : ρ hi = .int k' (j : Int)) (h : Rs w1 v m sz cs) (hij : i ≤ j) (hj : j ≤ m) :
    (execOp ρ ⟨dst, .slice t x (some lo) (some hi) none, ty, pos, aft, gd⟩).run P w = .ok (.value (cutV v sz i j)) w := by
  obtain ⟨_, A, c, rfl, hm, _⟩ := h
  have h1 : j ≤ c := by omega
  simp [go_sem, hx, hlo, hhi, Instr.sliceAt, Instr.slice, Instr.sliceBounds, Instr.sliceBound, run_underlying ht, hs, asIntOf, h1, hij, cutV]
theorem R_sliceArr {t e : TypeId} {x : Operand} {g o len : Nat} {s : Nat} (ht : P.underlying t = some (.array (len + 1) e)) (hs : ∀ w, (sizeOf e).run P w = .ok s w) (hx : ρ x = .pointer (some ⟨g, o, none⟩)) :
    (execOp ρ ⟨dst, .slice t x none none none, ty, pos, aft, gd⟩).run P w = .ok (.value (.slice (some ⟨g, o, none⟩) (len + 1) (len + 1))) w := by
  simp [go_sem, hx, Instr.sliceAt, Instr.sureAddr, Instr.sliceBounds, run_underlying ht, hs, Addr.add]
theorem R_elAddr {w1 : World} {t e : TypeId} {x y : Operand} {v : Value} {m sz : Nat} {cs : List Value} {k : IntKind} {i : Nat} (ht : P.underlying t = some (.slice e)) (hs : ∀ w, (sizeOf e).run P w = .ok sz w) (hx : ρ x = v) (hy : ρ y = .int k (i : Int)) (h : Rs w1 v m sz cs) (hi : i < m) :
    (execOp ρ ⟨dst, .indexAddr t x y, ty, pos, aft, gd⟩).run P w = .ok (.value (elV v (i * sz))) w := by
  obtain ⟨_, A, c, rfl, hm, _, hA, _⟩ := h
  cases A with
  | none => have := hA rfl; omega
  | some ad => simp [go_sem, hx, hy, Instr.indexAt, run_underlying ht, hs, asIntOf, hi, elV]
theorem R_loadEl {t : TypeId} {x : Operand} {v u : Value} {m sz j : Nat} {cs : List Value} (ht : ∀ w, (isAgg t).run P w = .ok false w) (hx : ρ x = elV v j) (h : Rs w v m sz cs) (hu : cs[j]? = some u) : (execOp ρ ⟨dst, .load t x, ty, pos, aft, gd⟩).run P w = .ok (.value u) w := by
  obtain ⟨_, A, c, rfl, _, _, _, hc⟩ := h
  obtain ⟨ad, rfl, hcell⟩ := hc j u hu
  exact R_load1 ht hx hcell
end
/-- An array in a block, cut as a slice. -/
theorem Blk.rs {w : World} {g o : Nat} {l : List Value} {T : TypeId} (h : Blk w g l T) (s : Nat) (hs : o + s ≤ l.length) (h63 : s ≤ 9223372036854775807) : Rs w (.slice (some ⟨g, o, none⟩) s s) s 1 ((l.drop o).take s) := by
  refine ⟨by simp; omega, _, _, rfl, Nat.le_refl _, h63, by simp, fun j u hu => ⟨_, rfl, ?_⟩⟩
  rw [List.getElem?_take] at hu
  split at hu
  · rw [List.getElem?_drop] at hu
    have : (⟨g, o, none⟩ : Addr).add j = ⟨g, o + j, none⟩ := by unfold Addr.add; split <;> simp_all
    rw [this, h.cell, hu]
  · cases hu
/-! ### bytes -/
def u8 (b : UInt8) : Value := .int .u8 (b.toNat : Int)
def bl (l : List UInt8) : List Value := l.map u8
def by8 (m : Int) : UInt8 := UInt8.ofNat (m % 256).toNat
theorem by8_toNat (m : Int) : ((by8 m).toNat : Int) = m % 256 := by
  simp only [by8, UInt8.toNat_ofNat']
  omega
def Bs (w : World) (v : Value) (l : List UInt8) : Prop := Rs w v l.length 1 (bl l)
def OwnB (w : World) (lo : Nat) (v : Value) (l : List UInt8) : Prop := w.ownsRow lo 5 1 v l.length (bl l)
theorem bl_plain (l : List UInt8) : (bl l).all plainV = true := by simp [bl, u8, plainV]
theorem bl_app (a b : List UInt8) : bl (a ++ b) = bl a ++ bl b := by simp [bl]
theorem bl_len (a : List UInt8) : (bl a).length = a.length := by simp [bl]
theorem Bs.ext {w w' : World} {v : Value} {l : List UInt8} (h : Bs w v l) (e : Ext w w') : Bs w' v l := Rs.ext h e
theorem OwnB.bs {w : World} {lo : Nat} {v : Value} {l : List UInt8} (h : OwnB w lo v l) : Bs w v l := own_rs h
theorem OwnB.ext {w w' : World} {lo : Nat} {v : Value} {l : List UInt8} (h : OwnB w lo v l) (e : Ext w w') : OwnB w' lo v l := own_ext h e
theorem OwnB.kp {w w' : World} {lo g : Nat} {v : Value} {l : List UInt8} (h : OwnB w lo v l) (k : Kp g w w') (hn : v.ownBlock ≠ some g) : OwnB w' lo v l := own_kp h k hn
theorem OwnB.lo {w : World} {lo lo' : Nat} {v : Value} {l : List UInt8} (h : OwnB w lo v l) (hl : lo' ≤ lo) : OwnB w lo' v l := own_lo h hl
theorem OwnB.nil (w : World) (lo : Nat) : OwnB w lo (.slice none 0 0) [] := own_nil w lo 5 1
theorem OwnB.of {w : World} {lo n : Nat} {v : Value} {xs : List Value} {l : List UInt8} (h : w.ownsRow lo 5 1 v n xs) (hn : n = l.length) (hx : xs = bl l) : OwnB w lo v l := by subst hn hx; exact h
theorem OwnB.grown {w w' : World} {lo : Nat} {v : Value} {l : List UInt8} {row : Option Nat} (h : OwnB w lo v l) (g : w.grownBy w' row) (hr : ∀ k, v.ownBlock = some k → row ≠ some k) : OwnB w' lo v l := own_grown h g hr
theorem OwnB.neB {w : World} {lo T b : Nat} {v : Value} {l : List UInt8} {c : List Value} (h : OwnB w lo v l) (hb : Blk w b c T) (hT : Nat.beq T 5 = false) : v.ownBlock ≠ some b := own_neB h hb hT
theorem Blk.bs {w : World} {g : Nat} {l : List Value} {T : TypeId} (h : Blk w g l T) (o : Nat) (b : List UInt8) (hs : Nat.ble (o + b.length) l.length = true) (hl : (l.drop o).take b.length = bl b) (h63 : Nat.ble b.length 1000 = true) : Bs w (.slice (some ⟨g, o, none⟩) b.length b.length) b := by
  have := h.rs (o := o) b.length (Nat.le_of_ble_eq_true hs) (by have := Nat.le_of_ble_eq_true h63; omega)
  rw [hl] at this
  exact this
theorem Bs.cut {w : World} {v : Value} {l : List UInt8} (h : Bs w v l) {i j : Nat} (hij : i ≤ j) (hj : j ≤ l.length) : Bs w (cutV v 1 i j) ((l.drop i).take (j - i)) := by
  have := Rs.cut h hij hj
  have e : ((l.drop i).take (j - i)).length = j - i := by rw [List.length_take, List.length_drop]; omega
  unfold Bs
  rw [e]
  simpa [bl, List.map_take, List.map_drop] using this
/-- The call returns a value of which Φ tells; the world is as it was, but for new blocks. -/
def RetE (w : World) (Φ : Value → World → Prop) : Ending → World → Prop := fun e w' => ∃ v, e = .returned v ∧ Ext w w' ∧ Φ v w'
section
variable {P : Program} {ops : Array Oper} {Q : Exit → Act → World → Prop} {K : Act → World → Prop} {n : Nat} {f : Nat → Value} {w : World} {d : Option Tmp} {op : Op} {ty : TypeId} {pos : String} {aft : Array Edge}
theorem D_callE {F : FuncId} {args : Array Value} {Φ : Value → World → Prop} (h : (execOp (ov n f) ⟨d, op, ty, pos, aft, none⟩).run P w = .ok (.enter F args) w) (hc : Calls P F args w (RetE w Φ))
    (k : ∀ v w', Ext w w' → Φ v w' → K (E n (upo f d v)) w') : wpO P ops Q ⟨d, op, ty, pos, aft, none⟩ K (E n f) w := by
  simp only [wpO, Region.wanted, if_true]
  refine .inl ?_
  simp only [Oper.wp, E_eval, h, Oper.upon]
  refine hc.mono ?_
  rintro e w1 ⟨v, rfl, h1, h2⟩
  simp only [E_put]
  exact k v w1 h1 h2
theorem D_callM {F : FuncId} {args : Array Value} {g : Nat} {l : List Value} {T : TypeId} (h : (execOp (ov n f) ⟨d, op, ty, pos, aft, none⟩).run P w = .ok (.enter F args) w) (hc : Calls P F args w (RetM w g l T))
    (k : ∀ w', Chg g w w' → Blk w' g l T → K (E n (upo f d (.tuple #[]))) w') : wpO P ops Q ⟨d, op, ty, pos, aft, none⟩ K (E n f) w := by
  simp only [wpO, Region.wanted, if_true]
  refine .inl ?_
  simp only [Oper.wp, E_eval, h, Oper.upon]
  refine hc.mono ?_
  rintro e w1 ⟨rfl, h1, h2⟩
  simp only [E_put]
  exact k w1 h1 h2
theorem D_appendB {lo : Nat} {t : TypeId} {s x : Operand} {v u : Value} {xs news : List UInt8} (hI : ElT P 5 1 1) (ht : P.underlying t = some (.slice 5)) (hs : ov n f s = v) (hx : ov n f x = u) (ho : OwnB w lo v xs) (hu : Bs w u news)
    (hb : xs.length + news.length ≤ 140737488355328) (hlo : lo ≤ w.heap.size)
    (h : ∀ v' w', OwnB w' lo v' (xs ++ news) → w.grownBy w' v.ownBlock → K (E n (upo f d v')) w') :
    wpO P ops Q ⟨d, .call ⟨.builtin .append, #[s, x], #[t, t]⟩, ty, pos, aft, none⟩ K (E n f) w :=
  D_append hI (by decide) ht hs hx ho hu (bl_plain _) (by omega) (by omega) hlo fun v' w' h1 h2 => h v' w' (OwnB.of h1 (by simp) (bl_app _ _).symm) h2
theorem D_make0 {t : TypeId} {x y : Operand} {kl kc : IntKind} {c : Nat} (hI : ElT P 5 1 1) (ht : P.underlying t = some (.slice 5)) (hx : ov n f x = .int kl ((0 : Nat) : Int)) (hy : ov n f y = .int kc (c : Int)) (hc : c ≤ 140737488355328)
    (h : ∀ v' w', OwnB w' w.heap.size v' [] → Ext w w' → K (E n (upo f d v')) w') : wpO P ops Q ⟨d, .makeSlice t x y, ty, pos, aft, none⟩ K (E n f) w := by
  obtain ⟨i, z, hi, hz, h1, h2, h3⟩ := hI
  exact D_make hi hz h1 h2 h3 ht hx hy (Nat.zero_le _) (by omega) (by omega) fun v' w' ho he _ => h v' w' (OwnB.of ho rfl (by simp [bl])) he
theorem fillB1 (b0 : UInt8) : Instr.fill (fun i => some (i * 1, 1)) ((Array.range (1 * 1)).map fun x => [Value.int .u8 0][x % [Value.int .u8 0].length]?.getD default) [(0, u8 b0)] = some (bl [b0]).toArray := by
  have : (Array.range (1 * 1)) = #[0] := by decide
  rw [this]
  simp [Instr.fill, u8, Value.cells, bl]
theorem fillB2 (b0 b1 : UInt8) : Instr.fill (fun i => some (i * 1, 1)) ((Array.range (2 * 1)).map fun x => [Value.int .u8 0][x % [Value.int .u8 0].length]?.getD default) [(0, u8 b0), (1, u8 b1)] = some (bl [b0, b1]).toArray := by
  have : (Array.range (2 * 1)) = #[0, 1] := by decide
  rw [this]
  simp [Instr.fill, u8, Value.cells, bl]
theorem fillB5 (b0 b1 b2 b3 b4 : UInt8) : Instr.fill (fun i => some (i * 1, 1)) ((Array.range (5 * 1)).map fun x => [Value.int .u8 0][x % [Value.int .u8 0].length]?.getD default) [(0, u8 b0), (1, u8 b1), (2, u8 b2), (3, u8 b3), (4, u8 b4)] = some (bl [b0, b1, b2, b3, b4]).toArray := by
  have : (Array.range (5 * 1)) = #[0, 1, 2, 3, 4] := by decide
  rw [this]
  simp [Instr.fill, u8, Value.cells, bl]
theorem fillB7 (b0 b1 b2 b3 b4 b5 b6 : UInt8) : Instr.fill (fun i => some (i * 1, 1)) ((Array.range (7 * 1)).map fun x => [Value.int .u8 0][x % [Value.int .u8 0].length]?.getD default) [(0, u8 b0), (1, u8 b1), (2, u8 b2), (3, u8 b3), (4, u8 b4), (5, u8 b5), (6, u8 b6)] = some (bl [b0, b1, b2, b3, b4, b5, b6]).toArray := by
  have : (Array.range (7 * 1)) = #[0, 1, 2, 3, 4, 5, 6] := by decide
  rw [this]
  simp [Instr.fill, u8, Value.cells, bl]
theorem fillB11 (b0 b1 b2 b3 b4 b5 b6 b7 b8 b9 b10 : UInt8) : Instr.fill (fun i => some (i * 1, 1)) ((Array.range (11 * 1)).map fun x => [Value.int .u8 0][x % [Value.int .u8 0].length]?.getD default) [(0, u8 b0), (1, u8 b1), (2, u8 b2), (3, u8 b3), (4, u8 b4), (5, u8 b5), (6, u8 b6), (7, u8 b7), (8, u8 b8), (9, u8 b9), (10, u8 b10)] = some (bl [b0, b1, b2, b3, b4, b5, b6, b7, b8, b9, b10]).toArray := by
  have : (Array.range (11 * 1)) = #[0, 1, 2, 3, 4, 5, 6, 7, 8, 9, 10] := by decide
  rw [this]
  simp [Instr.fill, u8, Value.cells, bl]
theorem D_buildB {t len : Nat} {parts : Array (Nat × Operand)} {vs : List (Nat × Value)} {b : List UInt8} (ht : P.underlying t = some (.slice 5)) (hs : ∀ w, (sizeOf 5).run P w = .ok 1 w) (hz : ∀ w, (zeroValue 5).run P w = .ok (.int .u8 0) w)
    (hv : parts.toList.map (fun p => (p.1, ov n f p.2)) = vs) (hf : Instr.fill (fun i => some (i * 1, 1)) ((Array.range (len * 1)).map fun x => [Value.int .u8 0][x % [Value.int .u8 0].length]?.getD default) vs = some (bl b).toArray) (hl : b.length = len) (h0 : Nat.blt 0 len = true) (h1 : Nat.ble len 1000 = true)
    (h : ∀ v' w', OwnB w' w.heap.size v' b → Ext w w' → K (E n (upo f d v')) w') : wpO P ops Q ⟨d, .buildSlice t len parts, ty, pos, aft, none⟩ K (E n f) w :=
  D_buildSlice (sz := 1) (z := [.int .u8 0]) ht hs (fun w => ⟨_, hz w, rfl⟩) (by have := Nat.le_of_ble_eq_true h0; omega) (by have := Nat.le_of_ble_eq_true h1; omega) hv hf (by simp [bl, hl]) fun v' w' ho he => h v' w' (OwnB.of ho hl.symm rfl) he
theorem D_makeN {t : TypeId} {x y : Operand} {kl kc : IntKind} {l c : Nat} (hI : ElT P 5 1 1) (hz5 : ∀ i z, P.info? 5 = some i → i.zero = some z → z = .int .u8 0) (ht : P.underlying t = some (.slice 5)) (hx : ov n f x = .int kl (l : Int)) (hy : ov n f y = .int kc (c : Int)) (hlc : l ≤ c) (hc : c ≤ 140737488355328)
    (h : ∀ v' w', OwnB w' w.heap.size v' (List.replicate l 0) → Ext w w' → K (E n (upo f d v')) w') : wpO P ops Q ⟨d, .makeSlice t x y, ty, pos, aft, none⟩ K (E n f) w := by
  obtain ⟨i, z, hi, hz, h1, h2, h3⟩ := hI
  have hzz := hz5 i z hi hz
  refine D_make hi hz h1 h2 h3 ht hx hy hlc (by omega) (by omega) fun v' w' ho he _ => h v' w' (OwnB.of ho (by simp) ?_) he
  subst hzz
  apply List.ext_getElem
  · simp [madeCells, bl]; omega
  · intro j h4 h5
    simp [madeCells, bl, u8, Value.cells, Nat.mod_one]
theorem run_copyCells {P : Program} {w : World} {g o dn dc m : Nat} {l : List Value} {T tT tS e : TypeId} {u : Value} {cs : List Value} {ty' : TypeId} (ht : P.underlying tT = some (.slice e)) (hs : ∀ w, (sizeOf e).run P w = .ok 1 w) (hb : Blk w g l T) (hdn : o + dn ≤ l.length) (hu : Rs w u m 1 cs) (hp : cs.all plainV = true) :
    ∃ w', (Builtin.copy_ #[tT, tS] ty' #[.slice (some ⟨g, o, none⟩) dn dc, u]).run P w = .ok (goInt (Nat.min m dn)) w' ∧ Kp g w w' ∧ Blk w' g (l.take o ++ cs.take (Nat.min m dn) ++ l.drop (o + Nat.min m dn)) T := by
  obtain ⟨hl, A, c, rfl, hmc, _, hA, hcell⟩ := hu
  have hq : Nat.min m dn ≤ m := Nat.min_le_left _ _
  have hq2 : Nat.min m dn ≤ dn := Nat.min_le_right _ _
  have hlen : (cs.take (Nat.min m dn)).length = Nat.min m dn := by rw [List.length_take, hl]; omega
  have hfirst : (Builtin.firstCells 1 (Nat.min m dn) (.slice A m c)).run P w = .ok (cs.take (Nat.min m dn)).toArray w := by
    cases A with
    | none =>
      have h0 := hA rfl
      have : Nat.min m dn = 0 := by omega
      simp [Builtin.firstCells, this]
    | some a =>
      have := run_loadCells_list (P := P) (w := w) a (cs.take (Nat.min m dn)) (fun j v hj => by
        rw [List.getElem?_take] at hj
        split at hj
        · obtain ⟨ad, had, hc⟩ := hcell j v hj
          cases had
          exact hc
        · cases hj)
      rw [hlen] at this
      simpa [Builtin.firstCells] using this
  obtain ⟨w', h1, h2, h3⟩ := run_storeCells (P := P) (o := o) (cs.take (Nat.min m dn)) w l 0 hb (by rw [List.all_eq_true] at hp ⊢; exact fun x hx => hp x (List.mem_of_mem_take hx)) (by rw [hlen]; omega)
  refine ⟨w', ?_, h2, by simpa [hlen] using h3⟩
  simp only [Builtin.copy_, Array.getElem?_toList, List.getElem?_toArray, List.getElem?_cons_zero, List.getElem?_cons_succ, Sem.run_bind, run_underlying ht, Result.andThen_ok, Builtin.lenOf, Sem.run_pure, hs, hfirst, h1]
theorem D_copyBlk {tT tS e T : TypeId} {x y : Operand} {g o dn dc m : Nat} {l cs l' : List Value} {u : Value} (ht : P.underlying tT = some (.slice e)) (hs : ∀ w, (sizeOf e).run P w = .ok 1 w) (hx : ov n f x = .slice (some ⟨g, o, none⟩) dn dc) (hy : ov n f y = u) (hb : Blk w g l T) (hdn : Nat.ble (o + dn) l.length = true) (hu : Rs w u m 1 cs) (hp : cs.all plainV = true)
    (hl' : l.take o ++ cs.take (Nat.min m dn) ++ l.drop (o + Nat.min m dn) = l') (h : ∀ w', Kp g w w' → Blk w' g l' T → K (E n (upo f d (goInt (Nat.min m dn)))) w') :
    wpO P ops Q ⟨d, .call ⟨.builtin .copy, #[x, y], #[tT, tS]⟩, ty, pos, aft, none⟩ K (E n f) w := by
  subst hl'
  obtain ⟨w', h1, h2, h3⟩ := run_copyCells (P := P) (tS := tS) (dc := dc) (ty' := ty) ht hs hb (Nat.le_of_ble_eq_true hdn) hu hp
  refine D_v (v := goInt (Nat.min m dn)) (w' := w') ?_ (h w' h2 h3)
  simp only [execOp, resolve, invoke, builtin, Sem.run_bind, Sem.run_pure, Result.andThen_ok, List.map_toArray, List.map_cons, List.map_nil, hx, hy, h1]
theorem D_copyOwnB {tT tS : TypeId} {lo : Nat} {x y : Operand} {v u : Value} {xs bs : List UInt8} (ht : P.underlying tT = some (.slice 5)) (hs : ∀ w, (sizeOf 5).run P w = .ok 1 w) (hx : ov n f x = v) (hy : ov n f y = u) (ho : OwnB w lo v xs) (hu : Bs w u bs) (hlen : bs.length = xs.length)
    (h : ∀ r w', OwnB w' lo v bs → w.grownBy w' v.ownBlock → K (E n (upo f d r)) w') :
    wpO P ops Q ⟨d, .call ⟨.builtin .copy, #[x, y], #[tT, tS]⟩, ty, pos, aft, none⟩ K (E n f) w := by
  obtain ⟨hl, ⟨rfl, h0⟩ | ⟨g, cap, cur, rfl, hg, hb, h1, h2, h3, h4⟩⟩ := ho
  · have hbs : bs = [] := List.eq_nil_of_length_eq_zero (by omega)
    have hxs : xs = [] := List.eq_nil_of_length_eq_zero h0
    subst hbs hxs
    obtain ⟨_, A, c, rfl, _⟩ := hu
    refine D_v (v := goInt 0) (w' := w) ?_ (h _ w (OwnB.nil w lo) ⟨rfl, rfl, rfl, Nat.le_refl _, fun _ _ _ => rfl⟩)
    simp only [execOp, resolve, invoke, builtin, Sem.run_bind, Sem.run_pure, Result.andThen_ok, List.map_toArray, List.map_cons, List.map_nil, hx, hy]
    have hz : Nat.min ([] : List UInt8).length ([] : List UInt8).length = 0 := rfl
    cases A <;> simp [Builtin.copy_, run_underlying ht, Builtin.lenOf, hs, Builtin.firstCells, loadCells, loadCellsFrom]
  · have hB : Blk w g cur.toList 5 := by simpa [Blk] using hb
    refine D_copyBlk (dn := xs.length) ht hs hx hy hB (Nat.ble_eq_true_of_le (by simp [h3]; omega)) hu (bl_plain _) rfl fun w' k b => h _ w' ?_ ⟨k.os, k.tape, k.output, Nat.le_of_eq k.size.symm, fun j _ hj => k.block j (fun e => hj (by subst e; rfl))⟩
    have hq : Nat.min bs.length xs.length = xs.length := by rw [hlen]; exact Nat.min_self _
    rw [hq] at b
    have hb' : w'.heap[g]? = _ := b
    refine ⟨by simp [bl], .inr ⟨g, cap, _, by rw [hlen], hg, hb', by omega, h2, ?_, ?_⟩⟩
    · simp [bl_len, hlen, h3]; omega
    · simp [bl_len, hlen, List.take_of_length_le (show (bl bs).length ≤ xs.length by rw [bl_len, hlen]; exact Nat.le_refl _)]
theorem D_build0 {t : TypeId} (ht : P.underlying t = some (.slice 5)) (hs : ∀ w, (sizeOf 5).run P w = .ok 1 w)
    (h : ∀ v' w', OwnB w' w.heap.size v' [] → Ext w w' → K (E n (upo f d v')) w') : wpO P ops Q ⟨d, .buildSlice t 0 #[], ty, pos, aft, none⟩ K (E n f) w := by
  refine D_v (v := .slice (some ⟨w.heap.size, 0, none⟩) 0 0) (w' := w.alloc (.cells #[] 5)) ?_ ?_
  · simp [go_sem, Instr.buildSlice, run_underlying ht, hs, Instr.fill]
  · refine h _ _ ⟨rfl, .inr ⟨w.heap.size, 0, _, rfl, Nat.le_refl _, heap_alloc_new w _, Nat.le_refl _, by simp [maxLen], rfl, rfl⟩⟩ (Ext.alloc _ _)
theorem run_loadVarA {T T' : TypeId} {g o s : Nat} {l c : List Value} (ha : ∀ w, (isAgg T).run P w = .ok true w) (hs : ∀ w, (sizeOf T).run P w = .ok s w) (hb : Blk w g l T') (hc : (l.drop o).take s = c) (hl : Nat.ble (o + s) l.length = true) :
    (loadVar T ⟨g, o, none⟩).run P w = .ok (.agg c.toArray) w := by
  have := R_loadA (P := P) (ρ := fun _ => .pointer (some ⟨g, o, none⟩)) (dst := none) (ty := 0) (pos := "") (aft := #[]) (gd := none) (x := .tmp 0) ha hs hb rfl hc hl
  simp only [execOp, Sem.run_bind, Instr.loadAt, Instr.sureAddr] at this
  generalize hX : (loadVar T ⟨g, o, none⟩).run P w = X at this ⊢
  cases X with
  | ok a w' => simp [hX] at this; obtain ⟨rfl, rfl⟩ := this; rfl
  | halt h w' => simp [hX, Result.andThen] at this
end
section
variable {P : Program} {fn : Func} {R : Ending → World → Prop} {n : Nat} {f : Nat → Value} {w : World}
theorem ret0 (hr : fn.results = #[]) (h : R (.returned (.tuple #[])) w) : bodyPost P fn R .ret (E n f) w := bodyPost_ret (results_none hr _ _ _) rfl h
theorem ret0n (hr : fn.results = #[]) (h : R (.returned (.tuple #[])) w) : bodyPost P fn R .normal (E n f) w := bodyPost_end (results_none hr _ _ _) rfl h
theorem retc {p : Tmp} {T T' : TypeId} {g o s : Nat} {l c : List Value} (hr : fn.results = #[.cell p T]) (hp : ov n f (.tmp p) = .pointer (some ⟨g, o, none⟩)) (ha : ∀ w, (isAgg T).run P w = .ok true w) (hs : ∀ w, (sizeOf T).run P w = .ok s w) (hb : Blk w g l T') (hc : (l.drop o).take s = c) (hl : Nat.ble (o + s) l.length = true)
    (h : R (.returned (.agg c.toArray)) w) : bodyPost P fn R .ret (E n f) w := by
  refine bodyPost_ret (v := .agg c.toArray) ?_ rfl h
  have := run_loadVarA ha hs hb hc hl
  have hg : (E n f).tmps[p]?.getD undef = .pointer (some ⟨g, o, none⟩) := by
    have hg := E_getD n f p
    simp only [ov] at hp
    rw [hp] at hg
    simpa using hg
  simp [results, hr, hg, asAddr, this]
theorem retct {p t : Tmp} {T T' : TypeId} {g o s : Nat} {l c : List Value} {v2 : Value} (hr : fn.results = #[.cell p T, .tmp t]) (hp : ov n f (.tmp p) = .pointer (some ⟨g, o, none⟩)) (ht : ov n f (.tmp t) = v2) (ha : ∀ w, (isAgg T).run P w = .ok true w) (hs : ∀ w, (sizeOf T).run P w = .ok s w) (hb : Blk w g l T') (hc : (l.drop o).take s = c) (hl : Nat.ble (o + s) l.length = true)
    (h : R (.returned (.tuple #[.agg c.toArray, v2])) w) : bodyPost P fn R .ret (E n f) w := by
  refine bodyPost_ret (v := .tuple #[.agg c.toArray, v2]) ?_ rfl h
  have := run_loadVarA ha hs hb hc hl
  have hg : (E n f).tmps[p]?.getD undef = .pointer (some ⟨g, o, none⟩) := by
    have hg := E_getD n f p
    simp only [ov] at hp
    rw [hp] at hg
    simpa using hg
  have hg2 : (E n f).tmps[t]?.getD undef = v2 := by
    have hg := E_getD n f t
    simp only [ov] at ht
    rw [ht] at hg
    simpa using hg
  simp [results, hr, hg, hg2, asAddr, this]
end
section
variable {P : Program} {ρ : Operand → Value} {w : World} {dst : Option Tmp} {ty : TypeId} {pos : String} {aft : Array Edge} {gd : Option (Nat × Bool)}
theorem R_nilCheck {x : Operand} {a : Addr} (hx : ρ x = .pointer (some a)) : (execOp ρ ⟨dst, .nilCheck x, ty, pos, aft, gd⟩).run P w = .ok (.value (.pointer (some a))) w := by
  simp [go_sem, hx]
theorem R_maxC {x y : Operand} {k k' : IntKind} {m j z : Int} {ts : Array TypeId} (hx : ρ x = .int k m) (hy : ρ y = .int k' j) (hz : (if j > m then j else m) = z) : (execOp ρ ⟨dst, .call ⟨.builtin .max, #[x, y], ts⟩, ty, pos, aft, gd⟩).run P w = .ok (.value (.int k z)) w := by
  subst hz; simp [go_sem, hx, hy, run_max_int2]
theorem R_minC {x y : Operand} {k k' : IntKind} {m j z : Int} {ts : Array TypeId} (hx : ρ x = .int k m) (hy : ρ y = .int k' j) (hz : (if j < m then j else m) = z) : (execOp ρ ⟨dst, .call ⟨.builtin .min, #[x, y], ts⟩, ty, pos, aft, gd⟩).run P w = .ok (.value (.int k z)) w := by
  subst hz; simp [go_sem, hx, hy, run_min_int2]
theorem R_shrC {t t' : TypeId} {x y : Operand} {k k' : IntKind} {m j : Int} {z : Nat} (hx : ρ x = .int k m) (hy : ρ y = .int k' j) (hj : 0 ≤ j) (hz : min j.toNat k.bits = z) : (execOp ρ ⟨dst, .binOp .shr t x y t', ty, pos, aft, gd⟩).run P w = .ok (.value (.int k (m / 2 ^ z))) w := by
  subst hz; exact R_shr hx hy hj
theorem R_shlC {t t' : TypeId} {x y : Operand} {k k' : IntKind} {m j : Int} {z : Nat} (hx : ρ x = .int k m) (hy : ρ y = .int k' j) (hj : 0 ≤ j) (hz : min j.toNat k.bits = z) : (execOp ρ ⟨dst, .binOp .shl t x y t', ty, pos, aft, gd⟩).run P w = .ok (.value (.int k (k.wrap (m * 2 ^ z)))) w := by
  subst hz; exact R_shl hx hy hj
theorem R_addN {t t' : TypeId} {x y : Operand} {m j : Nat} (hx : ρ x = .int .i64 (m : Int)) (hy : ρ y = .int .i64 (j : Int)) (hb : m + j ≤ 9223372036854775807) : (execOp ρ ⟨dst, .binOp .add t x y t', ty, pos, aft, gd⟩).run P w = .ok (.value (.int .i64 ((m + j : Nat) : Int))) w :=
  R_cast (R_addI hx hy) (congrArg (Value.int .i64) (by rw [IntKind.wrap_i64]; omega))
theorem R_subN {t t' : TypeId} {x y : Operand} {m j : Nat} (hx : ρ x = .int .i64 (m : Int)) (hy : ρ y = .int .i64 (j : Int)) (hj : j ≤ m) (hb : m ≤ 9223372036854775807) : (execOp ρ ⟨dst, .binOp .sub t x y t', ty, pos, aft, gd⟩).run P w = .ok (.value (.int .i64 ((m - j : Nat) : Int))) w :=
  R_cast (R_subI hx hy) (congrArg (Value.int .i64) (by rw [IntKind.wrap_i64]; omega))
theorem R_mulN {t t' : TypeId} {x y : Operand} {m j : Nat} (hx : ρ x = .int .i64 (m : Int)) (hy : ρ y = .int .i64 (j : Int)) (hb : m * j ≤ 9223372036854775807) : (execOp ρ ⟨dst, .binOp .mul t x y t', ty, pos, aft, gd⟩).run P w = .ok (.value (.int .i64 ((m * j : Nat) : Int))) w :=
  R_cast (R_mulI hx hy) (congrArg (Value.int .i64) (by rw [IntKind.wrap_i64]; rw [← Int.natCast_mul]; omega))
end
end Go.Proofs.Yteeopgpgbdhmhaa
