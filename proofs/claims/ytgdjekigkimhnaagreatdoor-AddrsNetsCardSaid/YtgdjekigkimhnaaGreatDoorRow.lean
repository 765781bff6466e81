/- A struct's block: its cells, and all of them stored, in one step. -/
import Derived.Test.YtgdjekigkimhnaaGreatDoorWWords
import Derived.Laws.CopyRow
import Derived.Laws.Rows
namespace Go.Proofs.YtgdjekigkimhnaaGreatDoor.P
open Go Go.RowKit Go.Proofs.YtgdjekigkimhnaaGreatDoorW.PrintWords
theorem cells4 {w : World} {g : Nat} {t : TypeId} {c0 c1 c2 c3 : Value} (h : w.heap[g]? = some (.cells #[c0, c1, c2, c3] t (0, 0))) : w.cell? ⟨g, 0, none⟩ = some c0 ∧ w.cell? ⟨g, 1, none⟩ = some c1 ∧ w.cell? ⟨g, 2, none⟩ = some c2 ∧ w.cell? ⟨g, 3, none⟩ = some c3 :=
  ⟨blk_cell h 0, blk_cell h 1, blk_cell h 2, blk_cell h 3⟩
theorem frozen4 {w : World} {g : Nat} {t : TypeId} {c0 c1 c2 c3 : Value} (h : w.heap[g]? = some (.cells #[c0, c1, c2, c3] t (0, 0))) : w.frozen? ⟨g, 0, none⟩ = false ∧ w.frozen? ⟨g, 1, none⟩ = false ∧ w.frozen? ⟨g, 2, none⟩ = false ∧ w.frozen? ⟨g, 3, none⟩ = false :=
  ⟨blk_frozen h 0, blk_frozen h 1, blk_frozen h 2, blk_frozen h 3⟩
theorem chain_step {W W' : World} {g : Nat} {t : TypeId} {c0 cs : Array Value} (hg : W.heap[g]? = some (.cells c0 t (0, 0))) (e : W' = W.setRow g cs) (i : Nat) (v : Value) {cs' : Array Value} (hc : cs.setIfInBounds i v = cs') : W'.setCell ⟨g, i, none⟩ v = W.setRow g cs' := by
  subst e
  rw [setCell_eq_setRow _ g i cs t (0, 0) v (setRow_heap W g c0 cs t (0, 0) hg), setRow_setRow, hc]
section
variable {P : Program} {ops : Array Oper} {rest : List Oper} {o : Oper} {a : Act} {Q : Exit → Act → World → Prop} {W : World}
theorem gate_st {ty : TypeId} {p : Tmp} {x : Operand} (_ho : o.op = .store ty (.tmp p) x) (h : wpList P ops Q (o :: rest) a W) : wpList P ops Q (o :: rest) a W := h
theorem load_st {ty : TypeId} {p : Tmp} {g : Nat} {t : TypeId} {cs cs' : Array Value} {fr : Nat × Nat} {d : TypeDesc} (ho : o.op = .load ty (.tmp p)) (hgd : o.guard = none) (hx : a.eval (.tmp p) = .pointer (some ⟨g, 0, none⟩)) (hg : W.heap[g]? = some (.cells cs t fr)) (hcs : cs = cs') (hu : P.underlying ty = some d) (hd : (match d with | .struct _ | .array _ _ => true | _ => false) = true) (hi : (P.info? ty).map (·.size) = some cs'.size) (h : wpList P ops Q rest (a.put o.dst (.agg cs')) W) : wpList P ops Q (o :: rest) a W := by
  subst hcs
  exact wpList_load_row hgd ty _ ho g hx t cs fr d hg hu hd hi h
theorem gate_neq {ty : TypeId} {x y : Operand} (_ho : o.op = .binOp .neq ty x y ty) (h : wpList P ops Q (o :: rest) a W) : wpList P ops Q (o :: rest) a W := h
theorem gate_gd {x : Nat × Bool} (_h : o.guard = some x) (h : wpList P ops Q (o :: rest) a W) : wpList P ops Q (o :: rest) a W := h
theorem gate_eql {ty : TypeId} {x y : Operand} (_ho : o.op = .binOp .eql ty x y ty) (h : wpList P ops Q (o :: rest) a W) : wpList P ops Q (o :: rest) a W := h
theorem gate_ld {ty : TypeId} {p : Tmp} (_ho : o.op = .load ty (.tmp p)) (h : wpList P ops Q (o :: rest) a W) : wpList P ops Q (o :: rest) a W := h
theorem storeC4 {ty t : TypeId} {p : Tmp} {x : Operand} {g : Nat} {cs : Array Value} {c0 c1 c2 c3 v0 v1 v2 v3 : Value} (ho : o.op = .store ty (.tmp p) x) (hgd : o.guard = none) (hd : o.dst = none) (hx : a.eval (.tmp p) = .pointer (some ⟨g, 0, none⟩)) (hy : a.eval x = .agg #[v0, v1, v2, v3]) (hg0 : W.heap[g]? = some (.cells cs t (0, 0))) (hcs : cs = #[c0, c1, c2, c3]) (hi : (P.info? ty).map (·.size) = some 4) (h1 : ([v0, v1, v2, v3] : List Value).all (·.oneCell') = true) (h : wpList P ops Q rest a (World.setCell (World.setCell (World.setCell (World.setCell W ⟨g, 0, none⟩ v0) ⟨g, 1, none⟩ v1) ⟨g, 2, none⟩ v2) ⟨g, 3, none⟩ v3)) : wpList P ops Q (o :: rest) a W := by
  have hg : W.heap[g]? = some (.cells #[c0, c1, c2, c3] t (0, 0)) := hcs ▸ hg0
  have e0 := chain_step (cs' := #[v0, c1, c2, c3]) hg (cs := #[c0, c1, c2, c3]) (setRow_self W g _ t (0, 0) hg).symm 0 v0 rfl
  have e1 := chain_step (cs' := #[v0, v1, c2, c3]) hg e0 1 v1 rfl
  have e2 := chain_step (cs' := #[v0, v1, v2, c3]) hg e1 2 v2 rfl
  have e3 := chain_step (cs' := #[v0, v1, v2, v3]) hg e2 3 v3 rfl
  refine wpList_store_row hgd ty (.tmp p) x ho g _ hx hy t _ hg hi rfl (by simpa using h1) ?_
  rw [hd, ← e3]
  exact h
theorem gate_row4 {w : World} {g : Nat} {v0 v1 v2 v3 : Value} {x : Option Obj} (h : (World.setCell (World.setCell (World.setCell (World.setCell w ⟨g, 0, none⟩ v0) ⟨g, 1, none⟩ v1) ⟨g, 2, none⟩ v2) ⟨g, 3, none⟩ v3).heap[g]? = x) : (World.setCell (World.setCell (World.setCell (World.setCell w ⟨g, 0, none⟩ v0) ⟨g, 1, none⟩ v1) ⟨g, 2, none⟩ v2) ⟨g, 3, none⟩ v3).heap[g]? = x := h
end
end Go.Proofs.YtgdjekigkimhnaaGreatDoor.P
