-- Written by wip/hprint.py (this session's program) through the kit's print program; hand contracts are marked 'by hand'.
import Derived.Test.YtjlikmonnnbnaaaDoorPx0
import Derived.Test.YtjlikmonnnbnaaaDoorPx5
namespace Go.Proofs.YtjlikmonnnbnaaaDoor.P
open Go.RowKit Go.Proofs.YtjlikmonnnbnaaaDoorW.PrintWords Go.Proofs.YtjlikmonnnbnaaaDoorW.PrintLast Go.Proofs.YtjlikmonnnbnaaaDoorW.PrintMore
attribute [local go_sem] max2_int min2_int max_two min_two max_three min_three max_four min_four   -- for this text's walks alone
set_option linter.unusedVariables false
set_option linter.unusedSimpArgs false

/-! ### arp_laid: function 19, by hand -/
-- IMPORT Derived.Test.YtjlikmonnnbnaaaDoorShelf
-- CALLS gangway/octets.Put
-- IMPORT Derived.Shelf.Strings.BuilderK
set_option maxHeartbeats 2000000 in
set_option maxRecDepth 100000 in
theorem bld_used (b : Nat) (w : World) (h0 : w.cell? ⟨b, 0, none⟩ = some (.pointer (some ⟨b, 0, none⟩))) :
    Calls Tryd.prog 42 #[.pointer (some ⟨b, 0, none⟩)] w fun e w' => e = .returned (.tuple #[]) ∧ w' = w := by
  obtain ⟨j, hj, _⟩ := Option.map_eq_some_iff.1 Tryd.Builder_Extra_169.sizeBuilder
  go_enter Tryd.func42, Tryd.ntmps42
  go_wp2
  rw [Lib.run_neq_ptr_same w _ Tryd.underlying71 hj]
  go_wp2
  go_end0
  exact ⟨rfl, rfl⟩
set_option maxHeartbeats 2000000 in
set_option maxRecDepth 100000 in
theorem bld_fresh (b : Nat) (w : World) (h0 : w.cell? ⟨b, 0, none⟩ = some (.pointer none)) (hsh : w.shape? b = some (74, 2)) (hfz : w.frozen? ⟨b, 0, none⟩ = false) :
    Calls Tryd.prog 42 #[.pointer (some ⟨b, 0, none⟩)] w fun e w' => e = .returned (.tuple #[]) ∧ w' = w.setCell ⟨b, 0, none⟩ (.pointer (some ⟨b, 0, none⟩)) := by
  obtain ⟨j, hj, hjs⟩ := Option.map_eq_some_iff.1 Tryd.Builder_Extra_169.sizeBuilder
  go_enter Tryd.func42, Tryd.ntmps42
  go_wp2
  rw [Lib.run_to_unsafe w ⟨b, 0, none⟩ Tryd.underlying71 Tryd.underlying83 hj (by rw [hjs]; decide) hsh (Nat.zero_lt_succ 1)]
  simp only [Result.andThen]
  rw [Oper.upon_value]
  go_wp2
  rw [run_callFunc_extern Tryd.func47 (by kernel_rfl) (by kernel_rfl) (by kernel_rfl) (e := Extern.AbiNoEscape.same) (by kernel_rfl)]
  rw [Lib.run_noEscape]
  simp only [Result.andThen]
  rw [Oper.upon_value]
  go_wp2
  rw [Lib.run_from_unsafe w ⟨b, 0, none⟩ Tryd.underlying83 Tryd.underlying71 hj hsh Tryd.Builder_Extra_169.liesBuilder]
  simp only [Result.andThen]
  rw [Oper.upon_value]
  go_wp2
  go_end0
  exact ⟨rfl, rfl⟩
theorem bld_check (B b : Nat) (bs : List Value) (w : World) (h : Lib.IsBuilderF 74 5 B b bs w) :
    Calls Tryd.prog 42 #[.pointer (some ⟨b, 0, none⟩)] w fun e w' => e = .returned (.tuple #[]) ∧ (Lib.BuilderAtF 74 5 B b (.pointer (some ⟨b, 0, none⟩)) bs w' ∧ Below B w w' ∧ Lib.OthersKept 5 (some b) w w') := by
  rcases h with h | h
  · refine (bld_fresh b w h.cell0 h.shape h.frozen0).mono ?_
    rintro e w' ⟨rfl, rfl⟩
    exact ⟨rfl, h.used _, (Below.refl B w).setCell (p := ⟨b, 0, none⟩) h.1 _, (Lib.OthersKept.refl _ _ w).setCell ⟨b, 0, none⟩ rfl _⟩
  · refine (bld_used b w h.cell0).mono ?_
    rintro e w' ⟨rfl, rfl⟩
    exact ⟨rfl, h, Below.refl B _, Lib.OthersKept.refl _ _ _⟩
set_option maxHeartbeats 2000000 in
set_option maxRecDepth 100000 in
theorem bld_write (B b : Nat) (bs : List Value) (s : ByteArray) (w : World) (h : Lib.IsBuilderF 74 5 B b bs w) (hlen : bs.length + s.size ≤ 140737488355328) (hBw : B ≤ w.heap.size) :
    Calls Tryd.prog 39 #[.pointer (some ⟨b, 0, none⟩), .string s] w fun e w' => e = .returned (.tuple #[.int .i64 s.size, .nilIface]) ∧ (Lib.BuilderAtF 74 5 B b (.pointer (some ⟨b, 0, none⟩)) (bs ++ Lib.strCells s) w' ∧ Below B w w' ∧ Lib.OthersKept 5 (some b) w w') := by
  obtain ⟨i0, hi, hz0, hz1, hz2⟩ := info_parts Tryd.Builder_Extra_169.infoByte
  have e42 : ∀ args w, (callFunc 42 args).run Tryd.prog w = .ok (.enter 42 args) w := enters_of Tryd.func42 (by kernel_rfl) rfl
  go_enter Tryd.func39, Tryd.ntmps39
  go_wp2_with (go_at_fn 42; refine (bld_check B b bs _ h).mono ?_)
  rintro e w1 ⟨rfl, h1, hb1, hk1⟩
  obtain ⟨hB, v, hbk, hown, hne⟩ := h1
  have c0 : w1.cell? ⟨b, 0, none⟩ = some (.pointer (some ⟨b, 0, none⟩)) := by rw [Lib.cell_of_heap hbk]; rfl
  have c1 : w1.cell? ⟨b, 1, none⟩ = some v := by rw [Lib.cell_of_heap hbk]; rfl
  go_wp2_with (at_builtin; refine Lib.wpList_append_own_stringF _ rfl _ _ 72 9 rfl B 5 i0 Tryd.underlying72 Tryd.underlying9 hi hz0 hz1 hz2 _ _ _ rfl hown s rfl ?c3 ?c4 ?c5 ?_)
  case c3 => unfold maxLen; omega
  case c4 => omega
  case c5 => have := hb1.size; omega
  intro v' w2 hown' hgrow _
  have hlt : b < w1.heap.size := by
    rcases Nat.lt_or_ge b w1.heap.size with h' | h'
    · exact h'
    · simp [Array.getElem?_eq_none h'] at hbk
  have hb2 : w2.heap[b]? = some (.cells #[.pointer (some ⟨b, 0, none⟩), v] 74 (0, 0)) := by
    rw [hgrow.block b hlt (fun e => hne e.symm)]
    exact hbk
  have d0 : w2.cell? ⟨b, 0, none⟩ = some (.pointer (some ⟨b, 0, none⟩)) := by rw [Lib.cell_of_heap hb2]; rfl
  have d1 : w2.cell? ⟨b, 1, none⟩ = some v := by rw [Lib.cell_of_heap hb2]; rfl
  have f1 : w2.frozen? ⟨b, 1, none⟩ = false := Lib.frozen_of_heap hb2 1
  obtain ⟨ao, n', cap, rfl⟩ : ∃ ao n' cap, v' = .slice ao n' cap := by
    rcases hown'.2 with ⟨hv, _⟩ | ⟨g, cap, cur, fz, hv, _⟩
    · exact ⟨_, _, _, hv⟩
    · exact ⟨_, _, _, hv⟩
  go_wp2
  go_ret2
  refine ⟨rfl, ?_, ?_, (hk1.grown hgrow (Lib.ownsRowF_kind hown)).setCell ⟨b, 1, none⟩ rfl _⟩
  · exact Lib.BuilderAtF.put (T := 74) (e := 5) hB hb2 (bs' := bs ++ Lib.strCells s) (by simpa [Lib.strCells_length] using hown') Tryd.Builder_Extra_169.neB5
  · exact (hb1.grown hgrow (by have := hb1.size; omega) (fun k hk => (hown.lt k hk).1)).setCell (p := ⟨b, 1, none⟩) hB _
/-- What joined makes of fields: their bytes behind bytes. -/
def joinedF (k : Nat) : List (Int × Int) → List UInt8 → Option (List UInt8)
  | [], l => some l
  | f :: r, l => (octets_Put.f k f.1 f.2).bind fun p => if l.length + p.1.size ≤ 140737488355328 then joinedF k r (l ++ p.1.data.toList) else none
theorem bldA_below {T e : TypeId} {B b : Nat} {p : Value} {bs : List Value} {W W' : World} (h : Lib.BuilderAtF T e B b p bs W) (hb : Below W.heap.size W W') : Lib.BuilderAtF T e B b p bs W' := by
  obtain ⟨hB, v, hv, hown, hne⟩ := h
  have hlt : b < W.heap.size := (Array.getElem?_eq_some_iff.1 hv).1
  exact ⟨hB, v, (hb.block b hlt).trans hv, hown.kept (row := none) ⟨hb.os, hb.tape, hb.output, hb.size, fun k hk _ => hb.block k hk⟩ (Classical.em _), hne⟩
theorem bldF_below {T e : TypeId} {B b : Nat} {bs : List Value} {W W' : World} (h : Lib.IsBuilderF T e B b bs W) (hb : Below W.heap.size W W') : Lib.IsBuilderF T e B b bs W' :=
  h.elim (fun x => .inl (bldA_below x hb)) (fun x => .inr (bldA_below x hb))
set_option maxHeartbeats 4000000 in
set_option maxRecDepth 100000 in
theorem joined_calls (k : Nat) (g : Nat) (T : TypeId) (cs : Array Value) (L : List (Int × Int)) (r : List UInt8) (w : World) (hn : L.length ≤ 100)
    (hcs : ∀ i (h : i < L.length), cs[i * 2]? = some (.int .u64 (L[i]).1) ∧ cs[i * 2 + 1]? = some (.int .i64 (L[i]).2))
    (hg : w.heap[g]? = some (.cells cs T (0, 0))) (h : joinedF k L [] = some r) :
    Calls Tryd.prog 30 #[.slice (some ⟨g, 0, none⟩) L.length L.length] w fun e w' => e = .returned (.string ⟨r.toArray⟩) ∧ Below w.heap.size w w' := by
  have HC := Aside0.mk hcs
  have HG := Aside0.mk hg
  have HH := Aside0.mk h
  clear hcs hg h
  go_enter Tryd.func30, Tryd.ntmps30
  go_wp2
  go_loopg [10] L.length (fun kq v10 w' => ∃ (i : Nat) (l : List UInt8), v10 = .int .i64 (i : Int) ∧ Aside0 (i + kq = L.length) ∧ Aside0 (joinedF k (L.drop i) l = some r) ∧ Aside0 (Lib.IsBuilderF 74 5 w.heap.size w.heap.size (Lib.byteCells l) w') ∧ Aside0 (Below w.heap.size w w'))
  case atStart =>
    refine ⟨0, [], rfl, ⟨by omega⟩, HH, ⟨Or.inl ⟨Nat.le_refl _, .slice none 0 0, ?_, ⟨by simp, .inl ⟨rfl, rfl⟩⟩, by simp [Value.ownBlock]⟩⟩, ⟨(Below.refl _ _).alloc (Nat.le_refl _) _⟩⟩
    exact Array.getElem?_push_size
  case round =>
    obtain ⟨i, l, rfl, HI, HJ, HBd, HB⟩ := hrel
    by_cases hi : i < L.length
    · have hc := HC.out i hi
      have hgl : g < w.heap.size := (Array.getElem?_eq_some_iff.1 HG.out).1
      have hgw : wr.heap[g]? = some (.cells cs T (0, 0)) := (HB.out.block g hgl).trans HG.out
      have q0 : wr.cell? ⟨g, i * 2, none⟩ = some (.int .u64 (L[i]).1) := (blk_cell hgw _).trans hc.1
      have q1 : wr.cell? ⟨g, i * 2 + 1, none⟩ = some (.int .i64 (L[i]).2) := (blk_cell hgw _).trans hc.2
      have b10 : decide ((i : Int) < (L.length : Int)) = true := decide_eq_true (by omega)
      have hj := HJ.out
      rw [List.drop_eq_getElem_cons hi] at hj
      simp only [joinedF] at hj
      obtain ⟨⟨s, e⟩, hp, hj⟩ := Option.bind_eq_some_iff.mp hj
      by_cases hlen : l.length + s.size ≤ 140737488355328
      · have hj2 : joinedF k (List.drop (i + 1) L) (l ++ s.data.toList) = some r := by rw [if_pos hlen] at hj; exact hj
        have HP := Aside0.mk hp
        have HJ2 := Aside0.mk hj2
        have HL := Aside0.mk hlen
        clear hj hj2 hp hlen HJ hc
        obtain ⟨m, rfl⟩ : ∃ m, gk = m + 1 := ⟨gk - 1, by have := HI.out; omega⟩
        go_wp2_with (first | (go_at_call 38; (with_reducible refine (octets_Put.calls k _ _ s e _ HP.out).mono ?_); rintro e1 w1 ⟨rfl, hb1⟩; have HW := Aside0.mk (show Below wr.heap.size wr w1 from below_step ((Below.refl wr.heap.size wr).alloc (Nat.le_refl _) _) hb1); clear hb1) | (go_at_call 39; (with_reducible refine (bld_write w.heap.size w.heap.size (Lib.byteCells l) s _ (bldF_below HBd.out HW.out) (by rw [Lib.byteCells_length]; exact HL.out) (Nat.le_trans HB.out.size HW.out.size)).mono ?_); rintro e2 w2 ⟨rfl, hb2, hb3, hk2⟩; have HB2 := Aside0.mk hb2; have HB3 := Aside0.mk hb3; clear hb2 hb3 hk2))
        go_roundg m
        case measure => omega
        case rel =>
          refine ⟨i + 1, l ++ s.data.toList, by simp, ⟨by have := HI.out; omega⟩, HJ2, ⟨?_⟩, ⟨?_⟩⟩
          · rw [Lib.byteCells_append]
            exact Or.inr HB2.out
          · exact (below_step HB.out HW.out).trans HB3.out
      · rw [if_neg hlen] at hj
        cases hj
    · have hir : i = L.length := by have := HI.out; omega
      have b10 : decide ((i : Int) < (L.length : Int)) = false := decide_eq_false (by omega)
      have hj := HJ.out
      rw [List.drop_of_length_le (by omega)] at hj
      obtain rfl := Option.some.inj hj
      clear hj HJ
      go_wp2_with (go_at_call 40; (with_reducible refine (Tryd.Builder_String_any_k _ _ l _ HBd.out HB.out.size).mono ?_); rintro e1 w1 ⟨rfl, hb1, hb2, hk⟩)
      go_ret
      exact ⟨rfl, HB.out.trans hb2⟩
theorem alloc_two (w : World) (A B : Obj) : ((w.alloc A).alloc B).heap[w.heap.size + 1]? = some B := by
  have : (w.alloc A).heap.size = w.heap.size + 1 := Array.size_push _
  rw [← this]
  exact Array.getElem?_push_size
theorem joinedF_mono (k : Nat) : ∀ (L : List (Int × Int)) (l : List UInt8), LeO (joinedF k L l) (joinedF (k + 1) L l)
  | [], l => fun r h => h
  | f :: L, l => by
    unfold joinedF
    refine LeO.bind (octets_Put.mono _ _ _) (fun p => ?_)
    refine LeO.ite ?_ ?_
    · exact joinedF_mono k L _
    · exact LeO.none _
def arp_laid.f (k : Nat) (a0_0 : Int) (a0_1 : Int) (a0_2 : Int) (a0_3 : Int) (a0_4 : Int) : Option ByteArray :=
  (joinedF k [(IntKind.u64.wrap a0_0, 2), (a0_1.tmod 281474976710656, 6), (IntKind.u64.wrap a0_2, 4), (a0_3.tmod 281474976710656, 6), (IntKind.u64.wrap a0_4, 4)] []).bind fun l => if 6 + l.length ≤ 9223372036854775807 then some ((⟨#[0, 1, 8, 0, 6, 4]⟩ : ByteArray) ++ (⟨l.toArray⟩ : ByteArray)) else none
theorem arp_laid.mono : ∀ a0_0 a0_1 a0_2 a0_3 a0_4 k, LeO (arp_laid.f k a0_0 a0_1 a0_2 a0_3 a0_4) (arp_laid.f (k + 1) a0_0 a0_1 a0_2 a0_3 a0_4) := by
  intro a0_0 a0_1 a0_2 a0_3 a0_4 k
  unfold arp_laid.f
  refine LeO.bind (joinedF_mono _ _ _) (fun l => ?_)
  refine LeO.ite ?_ ?_
  · exact fun r h => h
  · exact LeO.none _
set_option maxHeartbeats 4000000 in
set_option maxRecDepth 100000 in
theorem arp_laid.calls (k : Nat) (a0_0 : Int) (a0_1 : Int) (a0_2 : Int) (a0_3 : Int) (a0_4 : Int) (r : ByteArray) (w : World) (h : arp_laid.f k a0_0 a0_1 a0_2 a0_3 a0_4 = some r) :
    Calls Tryd.prog 19 #[.agg #[.int .i64 a0_0, .int .u64 a0_1, .int .u32 a0_2, .int .u64 a0_3, .int .u32 a0_4]] w fun e w' => e = .returned (.string r) ∧ Below w.heap.size w w' := by
  unfold arp_laid.f at h
  obtain ⟨l, hl, h⟩ := Option.bind_eq_some_iff.mp h
  by_cases hz : 6 + l.length ≤ 9223372036854775807
  · rw [if_pos hz] at h
    obtain rfl := Option.some.inj h
    clear h
    have HL := Aside0.mk hl
    clear hl
    have b6 := eq_true hz
    have J : ∀ W : World, W.heap[w.heap.size + 1]? = some (.cells #[.int .u64 (IntKind.u64.wrap a0_0), .int .i64 2, .int .u64 (a0_1.tmod 281474976710656), .int .i64 6, .int .u64 (IntKind.u64.wrap a0_2), .int .i64 4, .int .u64 (a0_3.tmod 281474976710656), .int .i64 6, .int .u64 (IntKind.u64.wrap a0_4), .int .i64 4] 61 (0, 0)) → Calls Tryd.prog 30 #[.slice (some ⟨w.heap.size + 1, 0, none⟩) 5 5] W fun e w' => e = .returned (.string ⟨l.toArray⟩) ∧ Below W.heap.size W w' := by
      intro W hg
      refine joined_calls k (w.heap.size + 1) 61 _ [(IntKind.u64.wrap a0_0, 2), (a0_1.tmod 281474976710656, 6), (IntKind.u64.wrap a0_2, 4), (a0_3.tmod 281474976710656, 6), (IntKind.u64.wrap a0_4, 4)] l W (by simp) ?_ hg HL.out
      intro i hi
      match i, hi with
      | 0, _ => exact ⟨rfl, rfl⟩
      | 1, _ => exact ⟨rfl, rfl⟩
      | 2, _ => exact ⟨rfl, rfl⟩
      | 3, _ => exact ⟨rfl, rfl⟩
      | 4, _ => exact ⟨rfl, rfl⟩
      | n + 5, hi => exact absurd hi (by simp)
    have HJ := Aside0.mk J
    clear J
    go_enter Tryd.func19, Tryd.ntmps19
    go_wp2_with (go_at_call 30; (with_reducible refine (HJ.out _ (alloc_two _ _ _)).mono ?_); rintro e w1 ⟨rfl, hb⟩)
    go_ret
    have HB := Aside0.mk (Below.refl w.heap.size w)
    exact ⟨rfl, below_step (by repeat (first | (with_reducible first | exact HB.out | apply below_alloc) | exact HB.out)) hb⟩
  · rw [if_neg hz] at h
    cases h

end Go.Proofs.YtjlikmonnnbnaaaDoor.P
