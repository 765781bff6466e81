/- From a row's condition on package-level variables, and the world's shape, to what a run wants (Laid); a world that meets it; the wrap that hands both on. -/
import Derived.Test.YtgdjekigkimhnaaGreatDoorRows
import Derived.Test.YtgdjekigkimhnaaGreatDoorLaid
import Derived.Lay
import Derived.LaidSub
import Derived.LaidHandle
import Derived.LaidLaws
import Derived.Handed
import Derived.RowKitTokens
import Derived.Stop.LaidErr
import Derived.Shelf.Vars
import Derived.SizedLaws
namespace Go.Proofs.YtgdjekigkimhnaaGreatDoor.P
open Go Go.RowKit Go.ChangeShapes Go.WideShapes Go.ChangeAt
variable {H : Type} {enc : TypeId × Value → H}
theorem change_and_shaped {a : Assume} {C : Checked} {os : Os} {f : FuncId} {fn : Func} {s : ChangeSpec} {conds : List PathCond} {apart fresh handsOn again : Bool} {X : World → Array Value → Prop}
    (hX : ∀ (w w' : World) (args : Array Value), w.heap = w'.heap → X w args → X w' args)
    (own : ownKnob C.prog.godebug = none) (started : os.Started) (noInit : C.prog.inits.idxOf? f = none) (hfn : C.prog.funcs[f]? = some fn)
    (witness : ∃ (w : World) (tape : Tape) (i : Input), w.os = os ∧ (w.forCall tape i).Shaped C.prog ∧ i.vars = [] ∧ Input.okWide C.prog (w.forCall tape i) .any w.heap.size f i ∧
      ((s.pre enc C.prog fn conds apart (w.forCall tape i).memory i.args ∧ X (w.forCall tape i).memory i.args) ∧ sizedMet enc C.prog fn (OpenSpec.ofChange s) apart (w.forCall tape i).memory i.args) ∧ a.holds C.prog (lone (Frame.enter C.prog f i.args .normal) [] (w.forCall tape i)))
    (contract : ∀ (W : World) (base : Nat) (args : Array Value) (ds gs : List (DataW H)) (before : List MemPlace),
      (∀ (j : Nat) t v, fn.params[j]? = some t → args[j]? = some v → Value.okWide C.prog W .any base t v) →
      DataW.Whole enc C.prog fn.params.toList s.vars apart W args.toList ds gs before →
      conds.all (PathCond.test C.prog ⟨fn.params.toList, ds, s.plain.varTypes C.prog, gs⟩) = true →
      (DataW.weightsEach C.prog (fn.params.toList ++ s.plain.varTypes C.prog) (ds ++ gs)).all (· ≤ reachBytes) = true → X W args → W.ShapedOpen C.prog →
      Calls C.prog f args W fun e W' => ∃ v, e = .returned v ∧ s.post enc C.prog fn apart fresh handsOn again W args v W') :
    ReturnsInHanded a C os f .any (fun w args => (s.pre enc C.prog fn conds apart w args ∧ X w args) ∧ sizedMet enc C.prog fn (OpenSpec.ofChange s) apart w args) (s.post enc C.prog fn apart fresh handsOn again) := by
  refine returnsInHanded_of_calls own started noInit witness ?_
  intro w tape i _ hsh _ hok hpre _
  obtain ⟨_, _, _, fn', hfn', _, _, _, _, hval⟩ := hok
  have e : fn' = fn := Option.some.inj (hfn'.symm.trans hfn)
  subst e
  obtain ⟨⟨⟨ds, gs, before, hw, hc⟩, hx⟩, hz⟩ := hpre
  have hw' := DataW.Whole.of_heap (w' := w.forCall tape i) (by rfl) hw
  refine (contract (w.forCall tape i) w.heap.size i.args ds gs before hval hw' hc (hz.weights hw) (hX _ _ _ (by rfl) hx) hsh).mono fun e W' ⟨v, he, hp⟩ => ?_
  subst he
  exact ChangeSpec.post_blind hp
theorem et : Tryz.prog.globalNamed "errors.errorType" = some 0 := by kernel_rfl
theorem rt : (Tryz.prog.cutTypes.find? (·.1 == "internal/reflectlite.rtype")).map (·.2) = some 124 := by kernel_rfl
theorem oneRow : ((List.range 178).filter fun t => Tryz.prog.rowNamed t [101, 114, 114, 111, 114]) = [52] := by kernel_rfl
theorem nTypes : Tryz.prog.types.size = 178 := by kernel_rfl
/-- The list of the rows. -/
def L8 : List (String × DataW Unit) := [("math/bits.deBruijn32tab", Rows.laid_math_bits_deBruijn32tab), ("math/bits.deBruijn64tab", Rows.laid_math_bits_deBruijn64tab), ("internal/strconv.uint64pow10", Rows.laid_internal_strconv_uint64pow10), ("unicode/utf8.acceptRanges", Rows.laid_unicode_utf8_acceptRanges), ("errors.errorType", Rows.laid_errors_errorType), ("strconv.ErrRange", Rows.laid_strconv_ErrRange), ("strconv.ErrSyntax", Rows.laid_strconv_ErrSyntax), ("unicode/utf8.first", Rows.laid_unicode_utf8_first)]
def L7 : List (String × DataW Unit) := [("math/bits.deBruijn32tab", Rows.laid_math_bits_deBruijn32tab), ("math/bits.deBruijn64tab", Rows.laid_math_bits_deBruijn64tab), ("internal/strconv.uint64pow10", Rows.laid_internal_strconv_uint64pow10), ("unicode/utf8.acceptRanges", Rows.laid_unicode_utf8_acceptRanges), ("strconv.ErrRange", Rows.laid_strconv_ErrRange), ("strconv.ErrSyntax", Rows.laid_strconv_ErrSyntax), ("unicode/utf8.first", Rows.laid_unicode_utf8_first)]
theorem l8_data : (L8.filter fun x => x.2.handleName?.isNone) = L7 := by kernel_rfl
theorem l8_hand : (L8.filter fun x => x.2.handleName?.isSome) = [("errors.errorType", Rows.laid_errors_errorType)] := by kernel_rfl
theorem pow_data : (Rows.laid_internal_strconv_uint64pow10 : DataW Unit) = Lib.tabData .u64 Lib.pow10Tab := by kernel_rfl
theorem star : "*" ++ "errors.errorString" = "*errors.errorString" := by decide
theorem rowErr (u : TypeId) (h : Tryz.prog.typeName? 3 u = some "*errors.errorString") : u = 138 :=
  typeName_ptr_named (nm := "errors.errorString") (by rw [star]; kernel_rfl) (by kernel_rfl) (by decide) u (by rw [star]; exact h)
theorem laid_of_row {W : World} (h : laidMetH Tryz.prog L8 W) (hs : W.ShapedOpen Tryz.prog) : Laid W := by
  obtain ⟨hd, hh⟩ := laidMetH_iff.1 h
  rw [l8_data] at hd
  rw [l8_hand] at hh
  have h3 := hd.tail.tail
  rw [pow_data] at h3
  have h5 := h3.tail.tail
  refine ⟨?_, ?_, ?_, ?_, ?_⟩
  · obtain ⟨name, u, ty, e1, e2, e3, e4, e5⟩ := hh _ (List.mem_singleton.2 rfl)
    have en : name = [101, 114, 114, 111, 114] := (Option.some.inj e1).symm
    subst en
    obtain rfl := Option.some.inj (rt.symm.trans e2)
    have hm : ty ∈ (List.range 178).filter fun t => Tryz.prog.rowNamed t [101, 114, 114, 111, 114] := List.mem_filter.2 ⟨List.mem_range.2 (by rw [← nTypes]; exact e3), e4⟩
    rw [oneRow] at hm
    obtain rfl := List.mem_singleton.1 hm
    have hh : typeHandle Tryz.prog 52 = .pointer (some ⟨9, 52, none⟩) := by kernel_rfl
    rw [hh] at e5
    have := World.var?_cell et e5 0
    simpa [Q.Laid] using this
  · exact cell_of_shapedOpen_int hs (g := 3) (t := 3) (zero := #[.int .i64 0]) (of_decide_eq_true (by kernel_rfl)) (by kernel_rfl) rfl (by kernel_rfl) (by kernel_rfl) Tryz.underlying3
  · exact Lib.tabIs_of_head (g := 6) (t := 142) (e := 22) (n := 20) (by kernel_rfl) (by kernel_rfl) (by kernel_rfl) Tryz.underlying22 (by kernel_rfl) (by kernel_rfl) h3
  · obtain ⟨a, s, hv, _, _, _⟩ := laid_sentinel (g := 1) (ti := 52) (tp := 138) (te := 140) (ts := 9) h5.tail (by kernel_rfl) (by kernel_rfl) Tryz.underlying52 rowErr Tryz.underlying138 Tryz.underlying140 rfl rfl Tryz.underlying9 (by kernel_rfl) (by kernel_rfl)
    have := World.var?_cell (by kernel_rfl : Tryz.prog.globalNamed "strconv.ErrSyntax" = some 1) hv 0
    exact ⟨_, by simpa using this, Or.inr ⟨_, _, rfl⟩⟩
  · obtain ⟨a, s, hv, _, _, _⟩ := laid_sentinel (g := 2) (ti := 52) (tp := 138) (te := 140) (ts := 9) h5 (by kernel_rfl) (by kernel_rfl) Tryz.underlying52 rowErr Tryz.underlying138 Tryz.underlying140 rfl rfl Tryz.underlying9 (by kernel_rfl) (by kernel_rfl)
    have := World.var?_cell (by kernel_rfl : Tryz.prog.globalNamed "strconv.ErrRange" = some 2) hv 0
    exact ⟨_, by simpa using this, Or.inr ⟨_, _, rfl⟩⟩
/-- A world that meets the condition: the settled one, errors.errorType's cell laid, then the data. -/
noncomputable def baseWorld (os : Os) : World :=
  let w0 := World.holding Tryz.prog os ⟨#[], #[], []⟩
  { w0 with heap := w0.heap.modify 0 fun
      | .cells _ t frozen => .cells #[.iface 124 (.agg #[.pointer (some ⟨9, 52, none⟩)])] t frozen
      | o => o }
noncomputable def laidWorld (os : Os) : World := (baseWorld os).layVars Tryz.prog L7
theorem laidWorld_os (os : Os) : (laidWorld os).os = os := (World.layVars_os _ _ _).trans rfl
theorem laidWorld_met (os : Os) (args : Array Value) : laidMetH Tryz.prog L8 ((laidWorld os).forCall (fun _ _ => 0) ⟨#[], args, []⟩).memory := by
  refine laidMetH_of_parts ?_ (by rw [l8_hand]; kernel_rfl)
  rw [l8_data]
  have e1 : (L7.filter fun x => (L7.map (·.1)).contains x.1) = L7 := List.filter_eq_self.2 fun x hx => List.contains_iff_mem.2 (List.mem_map.2 ⟨x, hx, rfl⟩)
  have e2 : (L7.filter fun x => !(L7.map (·.1)).contains x.1) = [] := List.filter_eq_nil_iff.2 fun x hx => by rw [List.contains_iff_mem.2 (List.mem_map.2 ⟨x, hx, rfl⟩)]; simp
  have hf : (baseWorld os).layFits Tryz.prog L7 [] = true := by kernel_rfl
  have hi : (baseWorld os).layIfaces Tryz.prog L7 (laidWorld os) = true := by kernel_rfl
  have h : laidMet Tryz.prog L7 (laidWorld os) := laidMet_layVars (w0 := baseWorld os) (L7.map (·.1)) [] (by rw [e1]; rfl) (by rw [e1]; exact hf) (by rw [e1]; exact hi) (by rw [e2]; exact LaidIn.none)
  exact h.of_heap (by simp [World.memory, World.forCall, Input.heap])
end Go.Proofs.YtgdjekigkimhnaaGreatDoor.P
