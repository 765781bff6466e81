/- A struct's block: its cells, and all of them stored, in one step. -/
import Derived.Test.YtbkgaplldfilnaaDoorWWords
import Derived.Laws.CopyRow
import Derived.Laws.Rows
namespace Go.Proofs.YtbkgaplldfilnaaDoor.P
open Go Go.RowKit Go.Proofs.YtbkgaplldfilnaaDoorW.PrintWords
theorem cells4 {w : World} {g : Nat} {t : TypeId} {c0 c1 c2 c3 : Value} (h : w.heap[g]? = some (.cells #[c0, c1, c2, c3] t (0, 0))) : w.cell? ⟨g, 0, none⟩ = some c0 ∧ w.cell? ⟨g, 1, none⟩ = some c1 ∧ w.cell? ⟨g, 2, none⟩ = some c2 ∧ w.cell? ⟨g, 3, none⟩ = some c3 :=
  ⟨blk_cell h 0, blk_cell h 1, blk_cell h 2, blk_cell h 3⟩
theorem frozen4 {w : World} {g : Nat} {t : TypeId} {c0 c1 c2 c3 : Value} (h : w.heap[g]? = some (.cells #[c0, c1, c2, c3] t (0, 0))) : w.frozen? ⟨g, 0, none⟩ = false ∧ w.frozen? ⟨g, 1, none⟩ = false ∧ w.frozen? ⟨g, 2, none⟩ = false ∧ w.frozen? ⟨g, 3, none⟩ = false :=
  ⟨blk_frozen h 0, blk_frozen h 1, blk_frozen h 2, blk_frozen h 3⟩
theorem cells5 {w : World} {g : Nat} {t : TypeId} {c0 c1 c2 c3 c4 : Value} (h : w.heap[g]? = some (.cells #[c0, c1, c2, c3, c4] t (0, 0))) : w.cell? ⟨g, 0, none⟩ = some c0 ∧ w.cell? ⟨g, 1, none⟩ = some c1 ∧ w.cell? ⟨g, 2, none⟩ = some c2 ∧ w.cell? ⟨g, 3, none⟩ = some c3 ∧ w.cell? ⟨g, 4, none⟩ = some c4 :=
  ⟨blk_cell h 0, blk_cell h 1, blk_cell h 2, blk_cell h 3, blk_cell h 4⟩
theorem frozen5 {w : World} {g : Nat} {t : TypeId} {c0 c1 c2 c3 c4 : Value} (h : w.heap[g]? = some (.cells #[c0, c1, c2, c3, c4] t (0, 0))) : w.frozen? ⟨g, 0, none⟩ = false ∧ w.frozen? ⟨g, 1, none⟩ = false ∧ w.frozen? ⟨g, 2, none⟩ = false ∧ w.frozen? ⟨g, 3, none⟩ = false ∧ w.frozen? ⟨g, 4, none⟩ = false :=
  ⟨blk_frozen h 0, blk_frozen h 1, blk_frozen h 2, blk_frozen h 3, blk_frozen h 4⟩
theorem cells6 {w : World} {g : Nat} {t : TypeId} {c0 c1 c2 c3 c4 c5 : Value} (h : w.heap[g]? = some (.cells #[c0, c1, c2, c3, c4, c5] t (0, 0))) : w.cell? ⟨g, 0, none⟩ = some c0 ∧ w.cell? ⟨g, 1, none⟩ = some c1 ∧ w.cell? ⟨g, 2, none⟩ = some c2 ∧ w.cell? ⟨g, 3, none⟩ = some c3 ∧ w.cell? ⟨g, 4, none⟩ = some c4 ∧ w.cell? ⟨g, 5, none⟩ = some c5 :=
  ⟨blk_cell h 0, blk_cell h 1, blk_cell h 2, blk_cell h 3, blk_cell h 4, blk_cell h 5⟩
theorem frozen6 {w : World} {g : Nat} {t : TypeId} {c0 c1 c2 c3 c4 c5 : Value} (h : w.heap[g]? = some (.cells #[c0, c1, c2, c3, c4, c5] t (0, 0))) : w.frozen? ⟨g, 0, none⟩ = false ∧ w.frozen? ⟨g, 1, none⟩ = false ∧ w.frozen? ⟨g, 2, none⟩ = false ∧ w.frozen? ⟨g, 3, none⟩ = false ∧ w.frozen? ⟨g, 4, none⟩ = false ∧ w.frozen? ⟨g, 5, none⟩ = false :=
  ⟨blk_frozen h 0, blk_frozen h 1, blk_frozen h 2, blk_frozen h 3, blk_frozen h 4, blk_frozen h 5⟩
theorem cells8 {w : World} {g : Nat} {t : TypeId} {c0 c1 c2 c3 c4 c5 c6 c7 : Value} (h : w.heap[g]? = some (.cells #[c0, c1, c2, c3, c4, c5, c6, c7] t (0, 0))) : w.cell? ⟨g, 0, none⟩ = some c0 ∧ w.cell? ⟨g, 1, none⟩ = some c1 ∧ w.cell? ⟨g, 2, none⟩ = some c2 ∧ w.cell? ⟨g, 3, none⟩ = some c3 ∧ w.cell? ⟨g, 4, none⟩ = some c4 ∧ w.cell? ⟨g, 5, none⟩ = some c5 ∧ w.cell? ⟨g, 6, none⟩ = some c6 ∧ w.cell? ⟨g, 7, none⟩ = some c7 :=
  ⟨blk_cell h 0, blk_cell h 1, blk_cell h 2, blk_cell h 3, blk_cell h 4, blk_cell h 5, blk_cell h 6, blk_cell h 7⟩
theorem frozen8 {w : World} {g : Nat} {t : TypeId} {c0 c1 c2 c3 c4 c5 c6 c7 : Value} (h : w.heap[g]? = some (.cells #[c0, c1, c2, c3, c4, c5, c6, c7] t (0, 0))) : w.frozen? ⟨g, 0, none⟩ = false ∧ w.frozen? ⟨g, 1, none⟩ = false ∧ w.frozen? ⟨g, 2, none⟩ = false ∧ w.frozen? ⟨g, 3, none⟩ = false ∧ w.frozen? ⟨g, 4, none⟩ = false ∧ w.frozen? ⟨g, 5, none⟩ = false ∧ w.frozen? ⟨g, 6, none⟩ = false ∧ w.frozen? ⟨g, 7, none⟩ = false :=
  ⟨blk_frozen h 0, blk_frozen h 1, blk_frozen h 2, blk_frozen h 3, blk_frozen h 4, blk_frozen h 5, blk_frozen h 6, blk_frozen h 7⟩
theorem cells10 {w : World} {g : Nat} {t : TypeId} {c0 c1 c2 c3 c4 c5 c6 c7 c8 c9 : Value} (h : w.heap[g]? = some (.cells #[c0, c1, c2, c3, c4, c5, c6, c7, c8, c9] t (0, 0))) : w.cell? ⟨g, 0, none⟩ = some c0 ∧ w.cell? ⟨g, 1, none⟩ = some c1 ∧ w.cell? ⟨g, 2, none⟩ = some c2 ∧ w.cell? ⟨g, 3, none⟩ = some c3 ∧ w.cell? ⟨g, 4, none⟩ = some c4 ∧ w.cell? ⟨g, 5, none⟩ = some c5 ∧ w.cell? ⟨g, 6, none⟩ = some c6 ∧ w.cell? ⟨g, 7, none⟩ = some c7 ∧ w.cell? ⟨g, 8, none⟩ = some c8 ∧ w.cell? ⟨g, 9, none⟩ = some c9 :=
  ⟨blk_cell h 0, blk_cell h 1, blk_cell h 2, blk_cell h 3, blk_cell h 4, blk_cell h 5, blk_cell h 6, blk_cell h 7, blk_cell h 8, blk_cell h 9⟩
theorem frozen10 {w : World} {g : Nat} {t : TypeId} {c0 c1 c2 c3 c4 c5 c6 c7 c8 c9 : Value} (h : w.heap[g]? = some (.cells #[c0, c1, c2, c3, c4, c5, c6, c7, c8, c9] t (0, 0))) : w.frozen? ⟨g, 0, none⟩ = false ∧ w.frozen? ⟨g, 1, none⟩ = false ∧ w.frozen? ⟨g, 2, none⟩ = false ∧ w.frozen? ⟨g, 3, none⟩ = false ∧ w.frozen? ⟨g, 4, none⟩ = false ∧ w.frozen? ⟨g, 5, none⟩ = false ∧ w.frozen? ⟨g, 6, none⟩ = false ∧ w.frozen? ⟨g, 7, none⟩ = false ∧ w.frozen? ⟨g, 8, none⟩ = false ∧ w.frozen? ⟨g, 9, none⟩ = false :=
  ⟨blk_frozen h 0, blk_frozen h 1, blk_frozen h 2, blk_frozen h 3, blk_frozen h 4, blk_frozen h 5, blk_frozen h 6, blk_frozen h 7, blk_frozen h 8, blk_frozen h 9⟩
theorem put4_0_4 {w : World} {g : Nat} {t : TypeId} {c0 c1 c2 c3 v0 v1 v2 v3 : Value} (h : w.heap[g]? = some (.cells #[c0, c1, c2, c3] t (0, 0))) : ((World.setCell (World.setCell (World.setCell (World.setCell w ⟨g, 0, none⟩ v0) ⟨g, 1, none⟩ v1) ⟨g, 2, none⟩ v2) ⟨g, 3, none⟩ v3)).heap[g]? = some (.cells #[v0, v1, v2, v3] t (0, 0)) :=
  by
  have h0 := blk_put (cs' := #[v0, c1, c2, c3]) h 0 v0 rfl
  have h1 := blk_put (cs' := #[v0, v1, c2, c3]) h0 1 v1 rfl
  have h2 := blk_put (cs' := #[v0, v1, v2, c3]) h1 2 v2 rfl
  have h3 := blk_put (cs' := #[v0, v1, v2, v3]) h2 3 v3 rfl
  exact h3
theorem put5_0_5 {w : World} {g : Nat} {t : TypeId} {c0 c1 c2 c3 c4 v0 v1 v2 v3 v4 : Value} (h : w.heap[g]? = some (.cells #[c0, c1, c2, c3, c4] t (0, 0))) : ((World.setCell (World.setCell (World.setCell (World.setCell (World.setCell w ⟨g, 0, none⟩ v0) ⟨g, 1, none⟩ v1) ⟨g, 2, none⟩ v2) ⟨g, 3, none⟩ v3) ⟨g, 4, none⟩ v4)).heap[g]? = some (.cells #[v0, v1, v2, v3, v4] t (0, 0)) :=
  by
  have h0 := blk_put (cs' := #[v0, c1, c2, c3, c4]) h 0 v0 rfl
  have h1 := blk_put (cs' := #[v0, v1, c2, c3, c4]) h0 1 v1 rfl
  have h2 := blk_put (cs' := #[v0, v1, v2, c3, c4]) h1 2 v2 rfl
  have h3 := blk_put (cs' := #[v0, v1, v2, v3, c4]) h2 3 v3 rfl
  have h4 := blk_put (cs' := #[v0, v1, v2, v3, v4]) h3 4 v4 rfl
  exact h4
theorem put6_0_4 {w : World} {g : Nat} {t : TypeId} {c0 c1 c2 c3 c4 c5 v0 v1 v2 v3 : Value} (h : w.heap[g]? = some (.cells #[c0, c1, c2, c3, c4, c5] t (0, 0))) : ((World.setCell (World.setCell (World.setCell (World.setCell w ⟨g, 0, none⟩ v0) ⟨g, 1, none⟩ v1) ⟨g, 2, none⟩ v2) ⟨g, 3, none⟩ v3)).heap[g]? = some (.cells #[v0, v1, v2, v3, c4, c5] t (0, 0)) :=
  by
  have h0 := blk_put (cs' := #[v0, c1, c2, c3, c4, c5]) h 0 v0 rfl
  have h1 := blk_put (cs' := #[v0, v1, c2, c3, c4, c5]) h0 1 v1 rfl
  have h2 := blk_put (cs' := #[v0, v1, v2, c3, c4, c5]) h1 2 v2 rfl
  have h3 := blk_put (cs' := #[v0, v1, v2, v3, c4, c5]) h2 3 v3 rfl
  exact h3
theorem put6_0_6 {w : World} {g : Nat} {t : TypeId} {c0 c1 c2 c3 c4 c5 v0 v1 v2 v3 v4 v5 : Value} (h : w.heap[g]? = some (.cells #[c0, c1, c2, c3, c4, c5] t (0, 0))) : ((World.setCell (World.setCell (World.setCell (World.setCell (World.setCell (World.setCell w ⟨g, 0, none⟩ v0) ⟨g, 1, none⟩ v1) ⟨g, 2, none⟩ v2) ⟨g, 3, none⟩ v3) ⟨g, 4, none⟩ v4) ⟨g, 5, none⟩ v5)).heap[g]? = some (.cells #[v0, v1, v2, v3, v4, v5] t (0, 0)) :=
  by
  have h0 := blk_put (cs' := #[v0, c1, c2, c3, c4, c5]) h 0 v0 rfl
  have h1 := blk_put (cs' := #[v0, v1, c2, c3, c4, c5]) h0 1 v1 rfl
  have h2 := blk_put (cs' := #[v0, v1, v2, c3, c4, c5]) h1 2 v2 rfl
  have h3 := blk_put (cs' := #[v0, v1, v2, v3, c4, c5]) h2 3 v3 rfl
  have h4 := blk_put (cs' := #[v0, v1, v2, v3, v4, c5]) h3 4 v4 rfl
  have h5 := blk_put (cs' := #[v0, v1, v2, v3, v4, v5]) h4 5 v5 rfl
  exact h5
theorem put8_0_4 {w : World} {g : Nat} {t : TypeId} {c0 c1 c2 c3 c4 c5 c6 c7 v0 v1 v2 v3 : Value} (h : w.heap[g]? = some (.cells #[c0, c1, c2, c3, c4, c5, c6, c7] t (0, 0))) : ((World.setCell (World.setCell (World.setCell (World.setCell w ⟨g, 0, none⟩ v0) ⟨g, 1, none⟩ v1) ⟨g, 2, none⟩ v2) ⟨g, 3, none⟩ v3)).heap[g]? = some (.cells #[v0, v1, v2, v3, c4, c5, c6, c7] t (0, 0)) :=
  by
  have h0 := blk_put (cs' := #[v0, c1, c2, c3, c4, c5, c6, c7]) h 0 v0 rfl
  have h1 := blk_put (cs' := #[v0, v1, c2, c3, c4, c5, c6, c7]) h0 1 v1 rfl
  have h2 := blk_put (cs' := #[v0, v1, v2, c3, c4, c5, c6, c7]) h1 2 v2 rfl
  have h3 := blk_put (cs' := #[v0, v1, v2, v3, c4, c5, c6, c7]) h2 3 v3 rfl
  exact h3
theorem put8_4_4 {w : World} {g : Nat} {t : TypeId} {c0 c1 c2 c3 c4 c5 c6 c7 v4 v5 v6 v7 : Value} (h : w.heap[g]? = some (.cells #[c0, c1, c2, c3, c4, c5, c6, c7] t (0, 0))) : ((World.setCell (World.setCell (World.setCell (World.setCell w ⟨g, 4, none⟩ v4) ⟨g, 5, none⟩ v5) ⟨g, 6, none⟩ v6) ⟨g, 7, none⟩ v7)).heap[g]? = some (.cells #[c0, c1, c2, c3, v4, v5, v6, v7] t (0, 0)) :=
  by
  have h4 := blk_put (cs' := #[c0, c1, c2, c3, v4, c5, c6, c7]) h 4 v4 rfl
  have h5 := blk_put (cs' := #[c0, c1, c2, c3, v4, v5, c6, c7]) h4 5 v5 rfl
  have h6 := blk_put (cs' := #[c0, c1, c2, c3, v4, v5, v6, c7]) h5 6 v6 rfl
  have h7 := blk_put (cs' := #[c0, c1, c2, c3, v4, v5, v6, v7]) h6 7 v7 rfl
  exact h7
theorem put10_0_10 {w : World} {g : Nat} {t : TypeId} {c0 c1 c2 c3 c4 c5 c6 c7 c8 c9 v0 v1 v2 v3 v4 v5 v6 v7 v8 v9 : Value} (h : w.heap[g]? = some (.cells #[c0, c1, c2, c3, c4, c5, c6, c7, c8, c9] t (0, 0))) : ((World.setCell (World.setCell (World.setCell (World.setCell (World.setCell (World.setCell (World.setCell (World.setCell (World.setCell (World.setCell w ⟨g, 0, none⟩ v0) ⟨g, 1, none⟩ v1) ⟨g, 2, none⟩ v2) ⟨g, 3, none⟩ v3) ⟨g, 4, none⟩ v4) ⟨g, 5, none⟩ v5) ⟨g, 6, none⟩ v6) ⟨g, 7, none⟩ v7) ⟨g, 8, none⟩ v8) ⟨g, 9, none⟩ v9)).heap[g]? = some (.cells #[v0, v1, v2, v3, v4, v5, v6, v7, v8, v9] t (0, 0)) :=
  by
  have h0 := blk_put (cs' := #[v0, c1, c2, c3, c4, c5, c6, c7, c8, c9]) h 0 v0 rfl
  have h1 := blk_put (cs' := #[v0, v1, c2, c3, c4, c5, c6, c7, c8, c9]) h0 1 v1 rfl
  have h2 := blk_put (cs' := #[v0, v1, v2, c3, c4, c5, c6, c7, c8, c9]) h1 2 v2 rfl
  have h3 := blk_put (cs' := #[v0, v1, v2, v3, c4, c5, c6, c7, c8, c9]) h2 3 v3 rfl
  have h4 := blk_put (cs' := #[v0, v1, v2, v3, v4, c5, c6, c7, c8, c9]) h3 4 v4 rfl
  have h5 := blk_put (cs' := #[v0, v1, v2, v3, v4, v5, c6, c7, c8, c9]) h4 5 v5 rfl
  have h6 := blk_put (cs' := #[v0, v1, v2, v3, v4, v5, v6, c7, c8, c9]) h5 6 v6 rfl
  have h7 := blk_put (cs' := #[v0, v1, v2, v3, v4, v5, v6, v7, c8, c9]) h6 7 v7 rfl
  have h8 := blk_put (cs' := #[v0, v1, v2, v3, v4, v5, v6, v7, v8, c9]) h7 8 v8 rfl
  have h9 := blk_put (cs' := #[v0, v1, v2, v3, v4, v5, v6, v7, v8, v9]) h8 9 v9 rfl
  exact h9
theorem chain_step {W W' : World} {g : Nat} {t : TypeId} {c0 cs : Array Value} (hg : W.heap[g]? = some (.cells c0 t (0, 0))) (e : W' = W.setRow g cs) (i : Nat) (v : Value) {cs' : Array Value} (hc : cs.setIfInBounds i v = cs') : W'.setCell ⟨g, i, none⟩ v = W.setRow g cs' := by
  subst e
  rw [setCell_eq_setRow _ g i cs t (0, 0) v (setRow_heap W g c0 cs t (0, 0) hg), setRow_setRow, hc]
section
variable {P : Program} {ops : Array Oper} {rest : List Oper} {o : Oper} {a : Act} {Q : Exit → Act → World → Prop} {W : World}
theorem gate_st {ty : TypeId} {p : Tmp} {x : Operand} (_ho : o.op = .store ty (.tmp p) x) (h : wpList P ops Q (o :: rest) a W) : wpList P ops Q (o :: rest) a W := h
theorem load_st {ty : TypeId} {p : Tmp} {g : Nat} {t : TypeId} {cs cs' : Array Value} {fr : Nat × Nat} {d : TypeDesc} (ho : o.op = .load ty (.tmp p)) (hgd : o.guard = none) (hx : a.eval (.tmp p) = .pointer (some ⟨g, 0, none⟩)) (hg : W.heap[g]? = some (.cells cs t fr)) (hcs : cs = cs') (hu : P.underlying ty = some d) (hd : (match d with | .struct _ | .array _ _ => true | _ => false) = true) (hi : (P.info? ty).map (·.size) = some cs'.size) (h : wpList P ops Q rest (a.put o.dst (.agg cs')) W) : wpList P ops Q (o :: rest) a W := by
  subst hcs
  exact wpList_load_row hgd ty _ ho g hx t cs fr d hg hu hd hi h
theorem gate_gd {x : Nat × Bool} (_h : o.guard = some x) (h : wpList P ops Q (o :: rest) a W) : wpList P ops Q (o :: rest) a W := h
theorem gate_ld {ty : TypeId} {p : Tmp} (_ho : o.op = .load ty (.tmp p)) (h : wpList P ops Q (o :: rest) a W) : wpList P ops Q (o :: rest) a W := h
theorem storeC5 {ty t : TypeId} {p : Tmp} {x : Operand} {g : Nat} {cs : Array Value} {c0 c1 c2 c3 c4 v0 v1 v2 v3 v4 : Value} (ho : o.op = .store ty (.tmp p) x) (hgd : o.guard = none) (hd : o.dst = none) (hx : a.eval (.tmp p) = .pointer (some ⟨g, 0, none⟩)) (hy : a.eval x = .agg #[v0, v1, v2, v3, v4]) (hg0 : W.heap[g]? = some (.cells cs t (0, 0))) (hcs : cs = #[c0, c1, c2, c3, c4]) (hi : (P.info? ty).map (·.size) = some 5) (h1 : ([v0, v1, v2, v3, v4] : List Value).all (·.oneCell') = true) (h : wpList P ops Q rest a (World.setCell (World.setCell (World.setCell (World.setCell (World.setCell W ⟨g, 0, none⟩ v0) ⟨g, 1, none⟩ v1) ⟨g, 2, none⟩ v2) ⟨g, 3, none⟩ v3) ⟨g, 4, none⟩ v4)) : wpList P ops Q (o :: rest) a W := by
  have hg : W.heap[g]? = some (.cells #[c0, c1, c2, c3, c4] t (0, 0)) := hcs ▸ hg0
  have e0 := chain_step (cs' := #[v0, c1, c2, c3, c4]) hg (cs := #[c0, c1, c2, c3, c4]) (setRow_self W g _ t (0, 0) hg).symm 0 v0 rfl
  have e1 := chain_step (cs' := #[v0, v1, c2, c3, c4]) hg e0 1 v1 rfl
  have e2 := chain_step (cs' := #[v0, v1, v2, c3, c4]) hg e1 2 v2 rfl
  have e3 := chain_step (cs' := #[v0, v1, v2, v3, c4]) hg e2 3 v3 rfl
  have e4 := chain_step (cs' := #[v0, v1, v2, v3, v4]) hg e3 4 v4 rfl
  refine wpList_store_row hgd ty (.tmp p) x ho g _ hx hy t _ hg hi rfl (by simpa using h1) ?_
  rw [hd, ← e4]
  exact h
theorem storeC6 {ty t : TypeId} {p : Tmp} {x : Operand} {g : Nat} {cs : Array Value} {c0 c1 c2 c3 c4 c5 v0 v1 v2 v3 v4 v5 : Value} (ho : o.op = .store ty (.tmp p) x) (hgd : o.guard = none) (hd : o.dst = none) (hx : a.eval (.tmp p) = .pointer (some ⟨g, 0, none⟩)) (hy : a.eval x = .agg #[v0, v1, v2, v3, v4, v5]) (hg0 : W.heap[g]? = some (.cells cs t (0, 0))) (hcs : cs = #[c0, c1, c2, c3, c4, c5]) (hi : (P.info? ty).map (·.size) = some 6) (h1 : ([v0, v1, v2, v3, v4, v5] : List Value).all (·.oneCell') = true) (h : wpList P ops Q rest a (World.setCell (World.setCell (World.setCell (World.setCell (World.setCell (World.setCell W ⟨g, 0, none⟩ v0) ⟨g, 1, none⟩ v1) ⟨g, 2, none⟩ v2) ⟨g, 3, none⟩ v3) ⟨g, 4, none⟩ v4) ⟨g, 5, none⟩ v5)) : wpList P ops Q (o :: rest) a W := by
  have hg : W.heap[g]? = some (.cells #[c0, c1, c2, c3, c4, c5] t (0, 0)) := hcs ▸ hg0
  have e0 := chain_step (cs' := #[v0, c1, c2, c3, c4, c5]) hg (cs := #[c0, c1, c2, c3, c4, c5]) (setRow_self W g _ t (0, 0) hg).symm 0 v0 rfl
  have e1 := chain_step (cs' := #[v0, v1, c2, c3, c4, c5]) hg e0 1 v1 rfl
  have e2 := chain_step (cs' := #[v0, v1, v2, c3, c4, c5]) hg e1 2 v2 rfl
  have e3 := chain_step (cs' := #[v0, v1, v2, v3, c4, c5]) hg e2 3 v3 rfl
  have e4 := chain_step (cs' := #[v0, v1, v2, v3, v4, c5]) hg e3 4 v4 rfl
  have e5 := chain_step (cs' := #[v0, v1, v2, v3, v4, v5]) hg e4 5 v5 rfl
  refine wpList_store_row hgd ty (.tmp p) x ho g _ hx hy t _ hg hi rfl (by simpa using h1) ?_
  rw [hd, ← e5]
  exact h
theorem storeC8 {ty t : TypeId} {p : Tmp} {x : Operand} {g : Nat} {cs : Array Value} {c0 c1 c2 c3 c4 c5 c6 c7 v0 v1 v2 v3 v4 v5 v6 v7 : Value} (ho : o.op = .store ty (.tmp p) x) (hgd : o.guard = none) (hd : o.dst = none) (hx : a.eval (.tmp p) = .pointer (some ⟨g, 0, none⟩)) (hy : a.eval x = .agg #[v0, v1, v2, v3, v4, v5, v6, v7]) (hg0 : W.heap[g]? = some (.cells cs t (0, 0))) (hcs : cs = #[c0, c1, c2, c3, c4, c5, c6, c7]) (hi : (P.info? ty).map (·.size) = some 8) (h1 : ([v0, v1, v2, v3, v4, v5, v6, v7] : List Value).all (·.oneCell') = true) (h : wpList P ops Q rest a (World.setCell (World.setCell (World.setCell (World.setCell (World.setCell (World.setCell (World.setCell (World.setCell W ⟨g, 0, none⟩ v0) ⟨g, 1, none⟩ v1) ⟨g, 2, none⟩ v2) ⟨g, 3, none⟩ v3) ⟨g, 4, none⟩ v4) ⟨g, 5, none⟩ v5) ⟨g, 6, none⟩ v6) ⟨g, 7, none⟩ v7)) : wpList P ops Q (o :: rest) a W := by
  have hg : W.heap[g]? = some (.cells #[c0, c1, c2, c3, c4, c5, c6, c7] t (0, 0)) := hcs ▸ hg0
  have e0 := chain_step (cs' := #[v0, c1, c2, c3, c4, c5, c6, c7]) hg (cs := #[c0, c1, c2, c3, c4, c5, c6, c7]) (setRow_self W g _ t (0, 0) hg).symm 0 v0 rfl
  have e1 := chain_step (cs' := #[v0, v1, c2, c3, c4, c5, c6, c7]) hg e0 1 v1 rfl
  have e2 := chain_step (cs' := #[v0, v1, v2, c3, c4, c5, c6, c7]) hg e1 2 v2 rfl
  have e3 := chain_step (cs' := #[v0, v1, v2, v3, c4, c5, c6, c7]) hg e2 3 v3 rfl
  have e4 := chain_step (cs' := #[v0, v1, v2, v3, v4, c5, c6, c7]) hg e3 4 v4 rfl
  have e5 := chain_step (cs' := #[v0, v1, v2, v3, v4, v5, c6, c7]) hg e4 5 v5 rfl
  have e6 := chain_step (cs' := #[v0, v1, v2, v3, v4, v5, v6, c7]) hg e5 6 v6 rfl
  have e7 := chain_step (cs' := #[v0, v1, v2, v3, v4, v5, v6, v7]) hg e6 7 v7 rfl
  refine wpList_store_row hgd ty (.tmp p) x ho g _ hx hy t _ hg hi rfl (by simpa using h1) ?_
  rw [hd, ← e7]
  exact h
theorem storeC10 {ty t : TypeId} {p : Tmp} {x : Operand} {g : Nat} {cs : Array Value} {c0 c1 c2 c3 c4 c5 c6 c7 c8 c9 v0 v1 v2 v3 v4 v5 v6 v7 v8 v9 : Value} (ho : o.op = .store ty (.tmp p) x) (hgd : o.guard = none) (hd : o.dst = none) (hx : a.eval (.tmp p) = .pointer (some ⟨g, 0, none⟩)) (hy : a.eval x = .agg #[v0, v1, v2, v3, v4, v5, v6, v7, v8, v9]) (hg0 : W.heap[g]? = some (.cells cs t (0, 0))) (hcs : cs = #[c0, c1, c2, c3, c4, c5, c6, c7, c8, c9]) (hi : (P.info? ty).map (·.size) = some 10) (h1 : ([v0, v1, v2, v3, v4, v5, v6, v7, v8, v9] : List Value).all (·.oneCell') = true) (h : wpList P ops Q rest a (World.setCell (World.setCell (World.setCell (World.setCell (World.setCell (World.setCell (World.setCell (World.setCell (World.setCell (World.setCell W ⟨g, 0, none⟩ v0) ⟨g, 1, none⟩ v1) ⟨g, 2, none⟩ v2) ⟨g, 3, none⟩ v3) ⟨g, 4, none⟩ v4) ⟨g, 5, none⟩ v5) ⟨g, 6, none⟩ v6) ⟨g, 7, none⟩ v7) ⟨g, 8, none⟩ v8) ⟨g, 9, none⟩ v9)) : wpList P ops Q (o :: rest) a W := by
  have hg : W.heap[g]? = some (.cells #[c0, c1, c2, c3, c4, c5, c6, c7, c8, c9] t (0, 0)) := hcs ▸ hg0
  have e0 := chain_step (cs' := #[v0, c1, c2, c3, c4, c5, c6, c7, c8, c9]) hg (cs := #[c0, c1, c2, c3, c4, c5, c6, c7, c8, c9]) (setRow_self W g _ t (0, 0) hg).symm 0 v0 rfl
  have e1 := chain_step (cs' := #[v0, v1, c2, c3, c4, c5, c6, c7, c8, c9]) hg e0 1 v1 rfl
  have e2 := chain_step (cs' := #[v0, v1, v2, c3, c4, c5, c6, c7, c8, c9]) hg e1 2 v2 rfl
  have e3 := chain_step (cs' := #[v0, v1, v2, v3, c4, c5, c6, c7, c8, c9]) hg e2 3 v3 rfl
  have e4 := chain_step (cs' := #[v0, v1, v2, v3, v4, c5, c6, c7, c8, c9]) hg e3 4 v4 rfl
  have e5 := chain_step (cs' := #[v0, v1, v2, v3, v4, v5, c6, c7, c8, c9]) hg e4 5 v5 rfl
  have e6 := chain_step (cs' := #[v0, v1, v2, v3, v4, v5, v6, c7, c8, c9]) hg e5 6 v6 rfl
  have e7 := chain_step (cs' := #[v0, v1, v2, v3, v4, v5, v6, v7, c8, c9]) hg e6 7 v7 rfl
  have e8 := chain_step (cs' := #[v0, v1, v2, v3, v4, v5, v6, v7, v8, c9]) hg e7 8 v8 rfl
  have e9 := chain_step (cs' := #[v0, v1, v2, v3, v4, v5, v6, v7, v8, v9]) hg e8 9 v9 rfl
  refine wpList_store_row hgd ty (.tmp p) x ho g _ hx hy t _ hg hi rfl (by simpa using h1) ?_
  rw [hd, ← e9]
  exact h
end
end Go.Proofs.YtbkgaplldfilnaaDoor.P
