/- What errors.As does at an error of the type station.while with a target of type *api.Errno, where errors.errorType is laid. -/
import Derived.Test.YtbkgaplldfilnaaDoorProg
import Derived.WalkKit
import Derived.LaidEql
import Derived.Stop.Asserts
import Derived.RowKitTokens
import Derived.Below
namespace Go.Proofs.YtbkgaplldfilnaaDoor.Q
open Go.RowKit Go.Extern.Stop Go.Stop Go.Extern
def Laid (w : World) : Prop := w.cell? ⟨0, 0, none⟩ = some (.iface 112 (.agg #[.pointer (some ⟨2, 51, none⟩)]))
/-! closed facts on the model's entries for reflectlite, at this program's types -/
theorem as_valueOfP (t : Addr) (w : World) : (ReflectliteValue.unpack (.iface 60 (.pointer (some t)))).run Tryd.prog w
    = .ok (.agg #[.pointer (some ⟨2, 60, none⟩), .pointer (some ⟨w.heap.size, 0, none⟩), .int .u64 150]) (w.alloc (.cells #[.pointer (some t)] 60)) := by kernel_rfl
theorem as_typeP (a : Addr) (w : World) : (ReflectliteValue.methodAny (ReflectliteValue.valueError "reflectlite.Value.Type" 0) (fun t _ _ _ => ReflectliteType.toType t) #[.agg #[.pointer (some ⟨2, 60, none⟩), .pointer (some a), .int .u64 150]]).run Tryd.prog w
    = .ok (.iface 112 (.agg #[.pointer (some ⟨2, 60, none⟩)])) w := by kernel_rfl
theorem as_kindP (w : World) : ((ReflectliteType.abiMethod fun t => (fun a : Nat => Value.int IntKind.u8 (a : Int)) <$> Rtype.kind t) #[.pointer (some ⟨2, 60, none⟩)]).run Tryd.prog w = .ok (.int .u8 22) w := by kernel_rfl
theorem as_kindE (w : World) : ((ReflectliteType.abiMethod fun t => (fun a : Nat => Value.int IntKind.u8 (a : Int)) <$> Rtype.kind t) #[.pointer (some ⟨2, 58, none⟩)]).run Tryd.prog w = .ok (.int .u8 25) w := by kernel_rfl
theorem as_rlm (z : Sem Value) (f : TypeId → Addr → Nat → Nat → Sem Value) (v : Value) :
    ReflectliteValue.method z f #[v] = (do match ← ReflectliteValue.parts v with | none => z | some (t, a, fl) => f t a fl (fl % 32)) := rfl
theorem as_partsP (a : Addr) (w : World) : (ReflectliteValue.parts (.agg #[.pointer (some ⟨2, 60, none⟩), .pointer (some a), .int .u64 150])).run Tryd.prog w = .ok (some (60, a, 150)) w := by kernel_rfl
theorem as_isNilP (a p : Addr) (W : World) (ha : W.cell? a = some (.pointer (some p))) :
    (ReflectliteValue.method (ReflectliteValue.valueError "reflectlite.Value.IsNil" 0) ReflectliteValue.isNil #[.agg #[.pointer (some ⟨2, 60, none⟩), .pointer (some a), .int .u64 150]]).run Tryd.prog W = .ok (.bool false) W := by
  rw [as_rlm]
  simp only [Sem.run_bind, as_partsP, Result.andThen]
  simp [ReflectliteValue.isNil, loadVar, isAgg, underlying, Tryd.underlying60, ha, Result.andThen]
theorem as_methodKind (h : Value) (w : World) : (Go.method 280 112 (.agg #[h]) "Kind").run Tryd.prog w = .ok (103, h) w := by kernel_rfl
theorem as_methodElem (h : Value) (w : World) : (Go.method 280 112 (.agg #[h]) "Elem").run Tryd.prog w = .ok (116, .agg #[h]) w := by kernel_rfl
theorem as_methodImplements (h : Value) (w : World) : (Go.method 280 112 (.agg #[h]) "Implements").run Tryd.prog w = .ok (117, .agg #[h]) w := by kernel_rfl
theorem as_methodAssignableTo (h : Value) (w : World) : (Go.method 280 112 (.agg #[h]) "AssignableTo").run Tryd.prog w = .ok (114, .agg #[h]) w := by kernel_rfl
theorem as_elemP (w : World) : (ReflectliteType.method ReflectliteType.elem #[.agg #[.pointer (some ⟨2, 60, none⟩)]]).run Tryd.prog w = .ok (.iface 112 (.agg #[.pointer (some ⟨2, 58, none⟩)])) w := by kernel_rfl
theorem as_implementsE (w : World) : (ReflectliteType.relation "Implements" ReflectliteType.implements_ #[.agg #[.pointer (some ⟨2, 58, none⟩)], .iface 112 (.agg #[.pointer (some ⟨2, 51, none⟩)])]).run Tryd.prog w = .ok (.bool true) w := by kernel_rfl
theorem as_typeOfA (v : Value) (w : World) : (ReflectliteType.typeOf #[.iface 104 v]).run Tryd.prog w = .ok (.iface 112 (.agg #[.pointer (some ⟨2, 104, none⟩)])) w := by kernel_rfl
theorem as_typeOfE (v : Value) (w : World) : (ReflectliteType.typeOf #[.iface 58 v]).run Tryd.prog w = .ok (.iface 112 (.agg #[.pointer (some ⟨2, 58, none⟩)])) w := by kernel_rfl
theorem as_assignA (w : World) : (ReflectliteType.relation "AssignableTo" ReflectliteType.assignableTo #[.agg #[.pointer (some ⟨2, 104, none⟩)], .iface 112 (.agg #[.pointer (some ⟨2, 58, none⟩)])]).run Tryd.prog w = .ok (.bool false) w := by kernel_rfl
theorem as_assignE (w : World) : (ReflectliteType.relation "AssignableTo" ReflectliteType.assignableTo #[.agg #[.pointer (some ⟨2, 58, none⟩)], .iface 112 (.agg #[.pointer (some ⟨2, 58, none⟩)])]).run Tryd.prog w = .ok (.bool true) w := by kernel_rfl
theorem as_valueOfE (c : Int) (w : World) : (ReflectliteValue.unpack (.iface 58 (.agg #[.int .i64 c]))).run Tryd.prog w
    = .ok (.agg #[.pointer (some ⟨2, 58, none⟩), .pointer (some ⟨w.heap.size, 0, none⟩), .int .u64 153]) (w.alloc (.cells #[.int .i64 c] 58)) := by kernel_rfl
theorem as_elemOfP (w : World) : (Rtype.elem? 60).run Tryd.prog w = .ok (some 58) w := by kernel_rfl
theorem as_mkE (p : Addr) (w : World) : (ReflectliteValue.mk 58 p ReflectliteValue.flagAddr).run Tryd.prog w = .ok (.agg #[.pointer (some ⟨2, 58, none⟩), .pointer (some p), .int .u64 409]) w := by kernel_rfl
theorem as_elemV (a p : Addr) (W : World) (ha : W.cell? a = some (.pointer (some p))) :
    (ReflectliteValue.method (ReflectliteValue.valueError "reflectlite.Value.Elem" 0) ReflectliteValue.elem #[.agg #[.pointer (some ⟨2, 60, none⟩), .pointer (some a), .int .u64 150]]).run Tryd.prog W
      = .ok (.agg #[.pointer (some ⟨2, 58, none⟩), .pointer (some p), .int .u64 409]) W := by
  rw [as_rlm]
  simp only [Sem.run_bind, as_partsP, Result.andThen]
  simp [ReflectliteValue.elem, loadVar, isAgg, underlying, Tryd.underlying60, ha, Result.andThen, as_elemOfP, as_mkE]
theorem as_rls (v x : Value) : ReflectliteValue.set #[v, x] = (do
    let (some (dst, a, fl), some (src, b, _)) := (← ReflectliteValue.parts v, ← ReflectliteValue.parts x)
      | unsupported (.noEntry "extern/(internal/reflectlite.Value).Set.zeroValue")
    if fl / ReflectliteValue.flagAddr % 2 == 0 then unsupported (.noEntry "extern/(internal/reflectlite.Value).Set.unaddressable")
    let val ← loadVar src b
    if ← Rtype.directlyAssignable dst src then storeVar dst a val
    else if ← Rtype.implements dst src then
      if (← Rtype.kind src) == 20 then
        match val with
        | .nilIface => unsupported (.noEntry "extern/reflectlite: a nil value of one interface type handed on as a value of another")
        | _ => storeVar dst a val
      else storeVar dst a (.iface src val)
    else panicString ("reflectlite.Set: value of type " ++ (← Rtype.spelt src) ++ " is not assignable to type " ++ (← Rtype.spelt dst))
    pure (.tuple #[])) := rfl
theorem as_partsEa (a : Addr) (w : World) : (ReflectliteValue.parts (.agg #[.pointer (some ⟨2, 58, none⟩), .pointer (some a), .int .u64 409])).run Tryd.prog w = .ok (some (58, a, 409)) w := by kernel_rfl
theorem as_partsE (a : Addr) (w : World) : (ReflectliteValue.parts (.agg #[.pointer (some ⟨2, 58, none⟩), .pointer (some a), .int .u64 153])).run Tryd.prog w = .ok (some (58, a, 153)) w := by kernel_rfl
theorem as_directE (w : World) : (Rtype.directlyAssignable 58 58).run Tryd.prog w = .ok true w := by kernel_rfl
theorem as_setE (ta b : Addr) (c : Int) (old : Value) (W : World) (hb : W.cell? b = some (.int .i64 c)) (ht : W.cell? ta = some old) (hf : W.frozen? ta = false) :
    (ReflectliteValue.set #[.agg #[.pointer (some ⟨2, 58, none⟩), .pointer (some ta), .int .u64 409], .agg #[.pointer (some ⟨2, 58, none⟩), .pointer (some b), .int .u64 153]]).run Tryd.prog W
      = .ok (.tuple #[]) (W.setCell ta (.int .i64 c)) := by
  have hl : (loadCells b 1).run Tryd.prog W = .ok #[.int .i64 c] W := by
    simp [loadCells, loadCellsFrom, hb, Addr.add]
  rw [as_rls]
  simp only [Sem.run_bind, as_partsEa, as_partsE, Result.andThen]
  simp [ReflectliteValue.flagAddr, loadVar, isAgg, underlying, Tryd.underlying58, hl, Result.andThen, as_directE, storeVar, Value.cells, storeCells, Addr.add]
  rw [run_store Tryd.prog W ta _ _ (by rfl)]
  simp [ht, hf]
theorem as_noAs (v : Value) (W : World) : (Instr.typeAssert (.iface 104 v) 51 117 true).run Tryd.prog W = .ok (.tuple #[.nilIface, .bool false]) W :=
  run_typeAssert_lacksB Tryd.underlying117 (by kernel_rfl) (by kernel_rfl) v 51 W
theorem as_isUn (v : Value) (W : World) : (Instr.typeAssert (.iface 104 v) 51 120 true).run Tryd.prog W = .ok (.tuple #[.iface 104 v, .bool true]) W := by kernel_rfl
theorem as_methodUn (v : Value) (W : World) : (Go.method 280 104 v "Unwrap").run Tryd.prog W = .ok (112, v) W := by kernel_rfl
theorem as_lt {W : World} {a : Addr} {v : Value} (h : W.cell? a = some v) : a.block < W.heap.size := by
  rcases Nat.lt_or_ge a.block W.heap.size with h' | h'
  · exact h'
  · simp [World.cell?, Array.getElem?_eq_none h'] at h
theorem as_unwrap (p : ByteArray) (c : Int) (w : World) : Calls Tryd.prog 112 #[.agg #[.string p, .iface 58 (.agg #[.int .i64 c])]] w fun e w' => e = .returned (.iface 58 (.agg #[.int .i64 c])) ∧ w' = w.alloc (.cells #[.string p, .iface 58 (.agg #[.int .i64 c])] 104) := by
  go_enter Tryd.func112, Tryd.ntmps112
  go_wp2
  go_ret
  exact ⟨rfl, rfl⟩
set_option maxHeartbeats 8000000 in
theorem as_hit (p : ByteArray) (c : Int) (t : Addr) (old : Value) (w : World) (hg : Laid w) (ht0 : w.cell? t = some old) (hf0 : w.frozen? t = false) :
    Calls Tryd.prog 16 #[.iface 104 (.agg #[.string p, .iface 58 (.agg #[.int .i64 c])]), .iface 60 (.pointer (some t))] w fun ev w' => ev = .returned (.bool true) ∧ ∃ w1, Below w.heap.size w w1 ∧ w1.cell? t = some old ∧ w1.frozen? t = false ∧ w' = w1.setCell t (.int .i64 c) := by
  have hV := @run_callFunc_extern Tryd.prog 32 _ (fun args => ReflectliteValue.unpack (args.getD 0 (.tuple #[]))) Tryd.func32 (by kernel_rfl) (by kernel_rfl) (by kernel_rfl) (by kernel_rfl)
  have hT := @run_callFunc_extern Tryd.prog 33 _ (ReflectliteValue.methodAny (ReflectliteValue.valueError "reflectlite.Value.Type" 0) (fun t _ _ _ => ReflectliteType.toType t)) Tryd.func33 (by kernel_rfl) (by kernel_rfl) (by kernel_rfl) (by kernel_rfl)
  have hN := @run_callFunc_extern Tryd.prog 34 _ (ReflectliteValue.method (ReflectliteValue.valueError "reflectlite.Value.IsNil" 0) ReflectliteValue.isNil) Tryd.func34 (by kernel_rfl) (by kernel_rfl) (by kernel_rfl) (by kernel_rfl)
  have hK := @run_callFunc_extern Tryd.prog 103 _ (ReflectliteType.abiMethod fun t => do pure (.int .u8 (← Rtype.kind t))) Tryd.func103 (by kernel_rfl) (by kernel_rfl) (by kernel_rfl) (by kernel_rfl)
  have hE := @run_callFunc_extern Tryd.prog 116 _ (ReflectliteType.method ReflectliteType.elem) Tryd.func116 (by kernel_rfl) (by kernel_rfl) (by kernel_rfl) (by kernel_rfl)
  have hI := @run_callFunc_extern Tryd.prog 117 _ (ReflectliteType.relation "Implements" ReflectliteType.implements_) Tryd.func117 (by kernel_rfl) (by kernel_rfl) (by kernel_rfl) (by kernel_rfl)
  have hO := @run_callFunc_extern Tryd.prog 62 _ ReflectliteType.typeOf Tryd.func62 (by kernel_rfl) (by kernel_rfl) (by kernel_rfl) (by kernel_rfl)
  have hA := @run_callFunc_extern Tryd.prog 114 _ (ReflectliteType.relation "AssignableTo" ReflectliteType.assignableTo) Tryd.func114 (by kernel_rfl) (by kernel_rfl) (by kernel_rfl) (by kernel_rfl)
  have hL := @run_callFunc_extern Tryd.prog 63 _ (ReflectliteValue.method (ReflectliteValue.valueError "reflectlite.Value.Elem" 0) ReflectliteValue.elem) Tryd.func63 (by kernel_rfl) (by kernel_rfl) (by kernel_rfl) (by kernel_rfl)
  have hS := @run_callFunc_extern Tryd.prog 64 _ ReflectliteValue.set Tryd.func64 (by kernel_rfl) (by kernel_rfl) (by kernel_rfl) (by kernel_rfl)
  have q1 := as_valueOfP
  have q2 := as_typeP
  have q3 := as_methodKind
  have q4 := as_methodElem
  have q5 := as_methodImplements
  have q6 := as_methodAssignableTo
  have q7 := as_kindP
  have q8 := as_kindE
  have q9 := as_elemP
  have q10 := as_implementsE
  have q11 := as_typeOfA
  have q12 := as_typeOfE
  have q13 := as_assignA
  have q14 := as_assignE
  have q15 := as_valueOfE
  have q16 := as_noAs
  have q17 := as_isUn
  have q18 := as_methodUn
  unfold Laid at hg
  have hlt : 0 < w.heap.size := as_lt hg
  have htl : t.block < w.heap.size := as_lt ht0
  have n8 := as_isNilP ⟨w.heap.size, 0, none⟩ t ((w.alloc (.cells #[.pointer (some t)] 60)).alloc (.cells #[.pointer (some ⟨2, 60, none⟩), .pointer (some ⟨w.heap.size, 0, none⟩), .int .u64 150] 82)) (by simp)
  have hg2 : ((w.alloc (.cells #[.pointer (some t)] 60)).alloc (.cells #[.pointer (some ⟨2, 60, none⟩), .pointer (some ⟨w.heap.size, 0, none⟩), .int .u64 150] 82)).cell? ⟨0, 0, none⟩ = some (.iface 112 (.agg #[.pointer (some ⟨2, 51, none⟩)])) := by
    rw [World.cell?_alloc_lt _ _ ⟨0, 0, none⟩ (by simp), World.cell?_alloc_lt _ _ ⟨0, 0, none⟩ hlt]; exact hg
  have el := as_elemV ⟨w.heap.size, 0, none⟩ t ((((w.alloc (.cells #[.pointer (some t)] 60)).alloc (.cells #[.pointer (some ⟨2, 60, none⟩), .pointer (some ⟨w.heap.size, 0, none⟩), .int .u64 150] 82)).alloc (.cells #[.pointer (some ⟨2, 60, none⟩), .pointer (some ⟨w.heap.size, 0, none⟩), .int .u64 150] 82)).alloc (.cells #[.string p, .iface 58 (.agg #[.int .i64 c])] 104))
    (by rw [World.cell?_alloc_lt _ _ ⟨w.heap.size, 0, none⟩ (by simp; omega), World.cell?_alloc_lt _ _ ⟨w.heap.size, 0, none⟩ (by simp; omega)]; simp)
  have st := as_setE t ⟨w.heap.size + 1 + 1 + 1 + 1, 0, none⟩ c old (((((w.alloc (.cells #[.pointer (some t)] 60)).alloc (.cells #[.pointer (some ⟨2, 60, none⟩), .pointer (some ⟨w.heap.size, 0, none⟩), .int .u64 150] 82)).alloc (.cells #[.pointer (some ⟨2, 60, none⟩), .pointer (some ⟨w.heap.size, 0, none⟩), .int .u64 150] 82)).alloc (.cells #[.string p, .iface 58 (.agg #[.int .i64 c])] 104)).alloc (.cells #[.int .i64 c] 58))
    (by rw [World.cell?_alloc_at _ _ _ _ (by simp)]; rfl)
    (by rw [World.cell?_alloc_lt _ _ t (by simp; omega), World.cell?_alloc_lt _ _ t (by simp; omega), World.cell?_alloc_lt _ _ t (by simp; omega), World.cell?_alloc_lt _ _ t (by simp; omega), World.cell?_alloc_lt _ _ t htl]; exact ht0)
    (by rw [World.frozen?_alloc_old _ _ t (by simp; omega), World.frozen?_alloc_old _ _ t (by simp; omega), World.frozen?_alloc_old _ _ t (by simp; omega), World.frozen?_alloc_old _ _ t (by simp; omega), World.frozen?_alloc_old _ _ t (Nat.ne_of_lt htl)]; exact hf0)
  go_enter Tryd.func16, Tryd.ntmps16
  go_wp2
  refine wp_loop_rounds 2 ?_
  rw [rounds_succ]
  go_wp2_with (go_at_call 112; refine (as_unwrap p c _).mono ?_; rintro e w' ⟨rfl, rfl⟩)
  rw [rounds_succ]
  go_wp2
  go_ret
  refine ⟨rfl, _, (((((Below.refl _ _).alloc (Nat.le_refl _) _).alloc (by simp) _).alloc (by simp; omega) _).alloc (by simp; omega) _).alloc (by simp; omega) _, ?_, ?_, rfl⟩
  · rw [World.cell?_alloc_lt _ _ t (by simp; omega), World.cell?_alloc_lt _ _ t (by simp; omega), World.cell?_alloc_lt _ _ t (by simp; omega), World.cell?_alloc_lt _ _ t (by simp; omega), World.cell?_alloc_lt _ _ t htl]; exact ht0
  · rw [World.frozen?_alloc_old _ _ t (by simp; omega), World.frozen?_alloc_old _ _ t (by simp; omega), World.frozen?_alloc_old _ _ t (by simp; omega), World.frozen?_alloc_old _ _ t (by simp; omega), World.frozen?_alloc_old _ _ t (Nat.ne_of_lt htl)]; exact hf0
theorem laid_below {w w' : World} (h : Laid w) (hb : Below w.heap.size w w') : Laid w' := by
  unfold Laid at *
  exact (hb.cell (p := ⟨0, 0, none⟩) (as_lt h)).trans h
end Go.Proofs.YtbkgaplldfilnaaDoor.Q
