/- Operations whose guard is known to hold; pointers and maps that are there. No condition. -/
import Derived.Test.YteeopgpgbdhmhaaCk
namespace Go.Proofs.Yteeopgpgbdhmhaa
open Go.RowKit Go.Lib
set_option linter.unusedVariables false
set_option linter.unusedSimpArgs false
section
variable {P : Program} {ops : Array Oper} {Q : Exit → Act → World → Prop} {K : Act → World → Prop} {n : Nat} {f : Nat → Value} {w : World} {d : Option Tmp} {op : Op} {ty : TypeId} {pos : String} {aft : Array Edge}
/-- A guard that is known to hold is none. -/
theorem D_on {j dj : Nat} {want : Bool} (hj : (ops[j]?).bind (·.dst) = some dj) (hb : ov n f (.tmp dj) = .bool want) (h : wpO P ops Q ⟨d, op, ty, pos, aft, none⟩ K (E n f) w) :
    wpO P ops Q ⟨d, op, ty, pos, aft, some (j, want)⟩ K (E n f) w := by
  have hw : Region.wanted (⟨d, op, ty, pos, aft, some (j, want)⟩ : Oper) (yielded ops (E n f).tmps) = (want == want) := wanted_b rfl hj hb
  simp only [wpO, Region.wanted, if_true] at h
  unfold wpO
  rw [if_pos (by rw [hw]; simp)]
  exact h
/-- A new map: a block that is none of those that were there. -/
theorem D_makeMap {t : TypeId} (k : ∀ g w', Ext w w' → w.heap.size ≤ g → w'.heap[g]? = some (.map #[] 0) → K (E n (upo f d (.map (some g)))) w') :
    wpO P ops Q ⟨d, .makeMap t none, ty, pos, aft, none⟩ K (E n f) w := by
  refine D_v (v := .map (some w.heap.size)) (w' := w.alloc (.map #[] 0)) ?_ (k _ _ (Ext.alloc _ _) (Nat.le_refl _) (by unfold World.alloc; exact Array.getElem?_push_size))
  simp [go_sem, Instr.makeMap]
end
theorem places108 (w : World) : ((#[⟨"seed", 24, 0, false, "", "forkledger/manytime", 0⟩, ⟨"levels", 3, 8, false, "", "forkledger/manytime", 8⟩, ⟨"trees", 106, 9, false, "", "forkledger/manytime", 16⟩] : Array Field).mapM fun (f : Field) => Prod.mk f.offset <$> sizeOf f.type).run Try.prog w = .ok #[(0, 8), (8, 1), (9, 1)] w := by
  simp [Try.sizeOf24, Try.sizeOf3, Try.sizeOf106, go_sem]
theorem fill108 (n : Nm) (l : Int) (m : Option Nat) : Instr.fill ((#[(0, 8), (8, 1), (9, 1)] : Array (Nat × Nat))[·]?) (Nm.zero.l ++ [i64 0, .map none]).toArray [(0, .agg n.l.toArray), (1, i64 l), (2, .map m)] = some (n.l ++ [i64 l, .map m]).toArray := by
  rw [fill_step (off := 0) (size := 8) (c := n.l) rfl rfl rfl (by decide), fill_step (off := 8) (size := 1) (c := [i64 l]) rfl rfl rfl (by simp [Nm.l]), fill_step (off := 9) (size := 1) (c := [.map m]) rfl rfl rfl (by simp [Nm.l]), Instr.fill]
  simp [Nm.l]
theorem two_sig {a b : Vt} {V W : Value} {z : UInt8} : ∀ x ∈ [mkSg a V [], mkSg b W [z]], x.sig.length ≤ 140737488355328 := by
  intro x hx
  rcases List.mem_cons.1 hx with h1 | h1
  · rw [h1]; exact Nat.zero_le _
  · rw [List.mem_singleton.1 h1]; show 1 ≤ _; omega
theorem can_one {a : Vt} {V W : Value} {s : List UInt8} {ys : List Sg} (h : IsCan ([mkSg a V [], mkSg a W s].map Sg.p) (ys.map Sg.p)) : ys.length = 1 := by
  have e1 : (mkSg a V []).p = (a, []) := rfl
  have e2 : (mkSg a W s).p = (a, s) := rfl
  have k : IsCan ([mkSg a V [], mkSg a W s].map Sg.p) [(a, [])] := by
    refine ⟨List.pairwise_singleton _ _, fun y hy => ?_, fun x hx => ⟨(a, []), List.mem_singleton_self _, ?_⟩⟩
    · rw [List.mem_singleton] at hy; subst hy; exact List.mem_cons_self ..
    · simp only [List.map_cons, List.map_nil, List.mem_cons, List.not_mem_nil, or_false, e1, e2] at hx
      rcases hx with rfl | rfl
      · exact ⟨rfl, rfl⟩
      · refine ⟨rfl, ?_⟩
        cases s <;> rfl
  have := IsCan.uniq (fun _ => Iff.rfl) h k
  have h2 := congrArg List.length this
  simpa using h2
section
variable {ρ : Operand → Value} {w : World} {dst : Option Tmp} {ty : TypeId} {pos : String} {aft : Array Edge} {gd : Option (Nat × Bool)}
theorem R_ptrNN {x y : Operand} {a : Addr} {t' : TypeId} (hx : ρ x = .pointer (some a)) (hy : ρ y = .pointer none) : (execOp ρ ⟨dst, .binOp .neq 71 x y t', ty, pos, aft, gd⟩).run Try.prog w = .ok (.value (.bool true)) w := by
  have e : (Op.equalIn Op.maxDepth 71 (.pointer (some a)) (.pointer none)).run Try.prog w = .ok false w := by
    show (Op.equalIn (Op.maxDepth - 1 + 1) 71 (.pointer (some a)) (.pointer none)).run Try.prog w = .ok false w
    simp [Op.equalIn, run_underlying Try.underlying71]
  simp [go_sem, hx, hy, binOp, Op.equal, e]
theorem R_mapNN {x y : Operand} {m : Nat} {t' : TypeId} (hx : ρ x = .map (some m)) (hy : ρ y = .map none) : (execOp ρ ⟨dst, .binOp .neq 106 x y t', ty, pos, aft, gd⟩).run Try.prog w = .ok (.value (.bool true)) w := by
  have hu : ∃ k e, Try.prog.underlying 106 = some (.map k e) := ⟨_, _, Try.underlying106⟩
  obtain ⟨kk, ee, hu⟩ := hu
  have e : (Op.equalIn Op.maxDepth 106 (.map (some m)) (.map none)).run Try.prog w = .ok false w := by
    show (Op.equalIn (Op.maxDepth - 1 + 1) 106 (.map (some m)) (.map none)).run Try.prog w = .ok false w
    simp [Op.equalIn, run_underlying hu]
  simp [go_sem, hx, hy, binOp, Op.equal, e]
end
end Go.Proofs.Yteeopgpgbdhmhaa
