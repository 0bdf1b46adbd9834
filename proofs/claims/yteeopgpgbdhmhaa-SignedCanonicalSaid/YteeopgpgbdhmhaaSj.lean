/- A scope with jumps forward to one label. No condition. -/
import Derived.Test.YteeopgpgbdhmhaaSg
import Derived.ScopeJumps
namespace Go.Proofs.Yteeopgpgbdhmhaa
open Go.RowKit
variable {P : Program} {Q : Exit → Act → World → Prop} {n : Nat} {f : Nat → Value} {w : World} {a : Act} {J : Act → World → Prop} {next : Act → World → Prop}
theorem W_scope {c rest : Code} (l : Nat) (hf : findLabel c l = some rest) (h : c.wp P (Exit.jump l (fun a w => rest.wp P (Exit.jump l (fun _ _ => False) Q) a w) Q) (E n f) w) : (Code.scope c).wp P Q (E n f) w := by
  refine wp_scope_jumps l _ (fun _ _ => 0) hf h fun a w hJ => wp_mono hJ ?_
  intro e a w he
  cases e with
  | goto l' => exact he.2.elim
  | _ => exact he
theorem T_sg {l : Nat} (h : J a w) : Exit.jump l J Q (.goto l) a w := ⟨rfl, h⟩
theorem T_sn {l : Nat} (h : Q .normal a w) : Exit.jump l J Q .normal a w := h
theorem T_sr {l : Nat} (h : Q .ret a w) : Exit.jump l J Q .ret a w := h
theorem T_se {l i : Nat} (h : Q (.exit i) a w) : Exit.jump l J Q (.exit i) a w := h
theorem T_tg {l : Nat} (h : Q (.goto l) a w) : Exit.then next Q (.goto l) a w := h
theorem pq_jump {l : Nat} (h : PQ Q) : PQ (Exit.jump l J Q) := fun c d v a w hh => h c d v a w hh
theorem Es.nil (w : World) : Es w (.slice none 0 0) [] := ⟨⟨rfl, none, 0, rfl, Nat.le_refl _, by omega, fun _ => rfl, by intro j u hu; simp [evl] at hu⟩, by simp⟩
theorem evl_take (es : List Ev) (k : Nat) : evl (es.take k) = (evl es).take (k * 46) := by
  induction es generalizing k with
  | nil => simp [evl]
  | cons e t ih =>
    cases k with
    | zero => simp [evl]
    | succ k =>
      simp only [evl, List.take_succ_cons, List.flatMap_cons] at *
      rw [ih k, List.take_append, List.take_of_length_le (show e.l.length ≤ (k + 1) * 46 by rw [Ev.l_len]; omega), Ev.l_len, show (k + 1) * 46 - 46 = k * 46 by omega]
theorem Es.take {w : World} {v : Value} {es : List Ev} (h : Es w v es) (k : Nat) (hk : k ≤ es.length) : Es w (cutV v 46 0 k) (es.take k) := by
  refine ⟨?_, fun e he => h.2 e (List.mem_of_mem_take he)⟩
  have := Rs.cut h.1 (Nat.zero_le k) hk
  rw [evl_take, List.length_take, Nat.min_eq_left hk]
  simpa using this
end Go.Proofs.Yteeopgpgbdhmhaa
