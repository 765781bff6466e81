/- What a run of seat 02 finds in package-level variables: errors.errorType, the table of powers of ten, and cells of the right kind. -/
import Derived.Test.YtgdjekigkimhnaaGreatDoorAsErrno
import Derived.Lib.LaidTab
import Derived.Lib.SmallJoins
import Derived.Lib.ItoaNum
namespace Go.Proofs.YtgdjekigkimhnaaGreatDoor.P
open Go Go.RowKit
structure Laid (w : World) : Prop where
  er : Q.Laid w
  ml : ∃ m, w.cell? ⟨3, 0, none⟩ = some (.int .i64 m)
  tab : Lib.TabIs Tryz.prog w "internal/strconv.uint64pow10" .u64 Lib.pow10Tab
  syn : ∃ v, w.cell? ⟨1, 0, none⟩ = some v ∧ (v = .nilIface ∨ ∃ te pe, v = .iface te pe)
  rng : ∃ v, w.cell? ⟨2, 0, none⟩ = some v ∧ (v = .nilIface ∨ ∃ te pe, v = .iface te pe)
theorem cell_lt {w : World} {a : Addr} {v : Value} (h : w.cell? a = some v) : a.block < w.heap.size := by
  unfold World.cell? at h
  split at h
  · rename_i h1
    exact (Array.getElem?_eq_some_iff.1 h1).1
  · cases h
theorem cell_below {w w' : World} {a : Addr} {v : Value} (h : w.cell? a = some v) (hb : Below w.heap.size w w') : w'.cell? a = some v := (hb.cell (cell_lt h)).trans h
theorem laid_below {w w' : World} (h : Laid w) (hb : Below w.heap.size w w') : Laid w' where
  er := Q.laid_below h.er hb
  ml := h.ml.elim fun m hm => ⟨m, cell_below hm hb⟩
  tab := Joins.tab_stays (by kernel_rfl : Tryz.prog.globalNamed "internal/strconv.uint64pow10" = some 6) h.tab hb (Nat.le_refl _)
  syn := h.syn.elim fun v hv => ⟨v, cell_below hv.1 hb, hv.2⟩
  rng := h.rng.elim fun v hv => ⟨v, cell_below hv.1 hb, hv.2⟩
end Go.Proofs.YtgdjekigkimhnaaGreatDoor.P
