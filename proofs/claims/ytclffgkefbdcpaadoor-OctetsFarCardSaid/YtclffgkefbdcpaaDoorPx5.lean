-- Written by wip/hprint.py (this session's program) through the kit's print program; hand contracts are marked 'by hand'.
import Derived.Test.YtclffgkefbdcpaaDoorPx0
namespace Go.Proofs.YtclffgkefbdcpaaDoor.P
open Go.RowKit Go.Proofs.YtclffgkefbdcpaaDoorW.PrintWords Go.Proofs.YtclffgkefbdcpaaDoorW.PrintLast Go.Proofs.YtclffgkefbdcpaaDoorW.PrintMore
attribute [local go_sem] max2_int min2_int max_two min_two max_three min_three max_four min_four   -- for this text's walks alone
set_option linter.unusedVariables false
set_option linter.unusedSimpArgs false

/-! ### octets_Hex: function 14, by hand -/
-- IMPORT Derived.Test.YtclffgkefbdcpaaDoorShelf
-- IMPORT Derived.Shelf.Strings.BuilderK
set_option maxHeartbeats 2000000 in
set_option maxRecDepth 100000 in
theorem bld_used (b : Nat) (w : World) (h0 : w.cell? ⟨b, 0, none⟩ = some (.pointer (some ⟨b, 0, none⟩))) :
    Calls Tryd.prog 27 #[.pointer (some ⟨b, 0, none⟩)] w fun e w' => e = .returned (.tuple #[]) ∧ w' = w := by
  obtain ⟨j, hj, _⟩ := Option.map_eq_some_iff.1 Tryd.Builder_Extra_169.sizeBuilder
  go_enter Tryd.func27, Tryd.ntmps27
  go_wp2
  rw [Lib.run_neq_ptr_same w _ Tryd.underlying42 hj]
  go_wp2
  go_end0
  exact ⟨rfl, rfl⟩
set_option maxHeartbeats 2000000 in
set_option maxRecDepth 100000 in
theorem bld_fresh (b : Nat) (w : World) (h0 : w.cell? ⟨b, 0, none⟩ = some (.pointer none)) (hsh : w.shape? b = some (44, 2)) (hfz : w.frozen? ⟨b, 0, none⟩ = false) :
    Calls Tryd.prog 27 #[.pointer (some ⟨b, 0, none⟩)] w fun e w' => e = .returned (.tuple #[]) ∧ w' = w.setCell ⟨b, 0, none⟩ (.pointer (some ⟨b, 0, none⟩)) := by
  obtain ⟨j, hj, hjs⟩ := Option.map_eq_some_iff.1 Tryd.Builder_Extra_169.sizeBuilder
  go_enter Tryd.func27, Tryd.ntmps27
  go_wp2
  rw [Lib.run_to_unsafe w ⟨b, 0, none⟩ Tryd.underlying42 Tryd.underlying57 hj (by rw [hjs]; decide) hsh (Nat.zero_lt_succ 1)]
  simp only [Result.andThen]
  rw [Oper.upon_value]
  go_wp2
  rw [run_callFunc_extern Tryd.func30 (by kernel_rfl) (by kernel_rfl) (by kernel_rfl) (e := Extern.AbiNoEscape.same) (by kernel_rfl)]
  rw [Lib.run_noEscape]
  simp only [Result.andThen]
  rw [Oper.upon_value]
  go_wp2
  rw [Lib.run_from_unsafe w ⟨b, 0, none⟩ Tryd.underlying57 Tryd.underlying42 hj hsh Tryd.Builder_Extra_169.liesBuilder]
  simp only [Result.andThen]
  rw [Oper.upon_value]
  go_wp2
  go_end0
  exact ⟨rfl, rfl⟩
theorem bld_check (B b : Nat) (bs : List Value) (w : World) (h : Lib.IsBuilderF 44 5 B b bs w) :
    Calls Tryd.prog 27 #[.pointer (some ⟨b, 0, none⟩)] w fun e w' => e = .returned (.tuple #[]) ∧ (Lib.BuilderAtF 44 5 B b (.pointer (some ⟨b, 0, none⟩)) bs w' ∧ Below B w w' ∧ Lib.OthersKept 5 (some b) w w') := by
  rcases h with h | h
  · refine (bld_fresh b w h.cell0 h.shape h.frozen0).mono ?_
    rintro e w' ⟨rfl, rfl⟩
    exact ⟨rfl, h.used _, (Below.refl B w).setCell (p := ⟨b, 0, none⟩) h.1 _, (Lib.OthersKept.refl _ _ w).setCell ⟨b, 0, none⟩ rfl _⟩
  · refine (bld_used b w h.cell0).mono ?_
    rintro e w' ⟨rfl, rfl⟩
    exact ⟨rfl, h, Below.refl B _, Lib.OthersKept.refl _ _ _⟩
set_option maxHeartbeats 2000000 in
set_option maxRecDepth 100000 in
theorem bld_byte (B b : Nat) (bs : List Value) (c : Int) (w : World) (h : Lib.IsBuilderF 44 5 B b bs w) (hlen : bs.length + 1 ≤ 140737488355328) (hBw : B ≤ w.heap.size) :
    Calls Tryd.prog 21 #[.pointer (some ⟨b, 0, none⟩), .int .u8 c] w fun e w' => e = .returned .nilIface ∧ (Lib.BuilderAtF 44 5 B b (.pointer (some ⟨b, 0, none⟩)) (bs ++ [.int .u8 c]) w' ∧ Below B w w' ∧ Lib.OthersKept 5 (some b) w w') := by
  obtain ⟨i0, hi, hz0, hz1, hz2⟩ := info_parts Tryd.Builder_Extra_169.infoByte
  have eCC : ∀ args w, (callFunc 27 args).run Tryd.prog w = .ok (.enter 27 args) w := enters_of Tryd.func27 (by kernel_rfl) rfl
  go_enter Tryd.func21, Tryd.ntmps21
  go_wp2_with (go_at_fn 27; refine (bld_check B b bs _ h).mono ?_)
  rintro e w1 ⟨rfl, h1, hb1, hk1⟩
  obtain ⟨hB, v, hbk, hown, hne⟩ := h1
  have c0 : w1.cell? ⟨b, 0, none⟩ = some (.pointer (some ⟨b, 0, none⟩)) := by rw [Lib.cell_of_heap hbk]; rfl
  have c1 : w1.cell? ⟨b, 1, none⟩ = some v := by rw [Lib.cell_of_heap hbk]; rfl
  go_wp2_with (at_builtin; refine wpList_append_ownF _ rfl _ _ 38 rfl B 5 i0 (.int .u8 0) 1 1 Tryd.underlying38 hi hz0 hz1 hz2 rfl (by decide) _ _ _ rfl (hown.alloc _) ⟨w1.heap.size, 0, none⟩ 1 1 [.int .u8 c] rfl rfl ?c1 ?c2 ?c3 ?c4 ?c5 ?_)
  case c1 =>
    intro j u hj
    match j, hj with
    | 0, hj => simp at hj; subst hj; simp [Addr.add]
  case c2 => intro u hu; simp at hu; subst hu; rfl
  case c3 => unfold maxLen; omega
  case c4 => omega
  case c5 => have := hb1.size; simp; omega
  intro v' w2 hown' hgrow _
  have hlt : b < w1.heap.size := by
    rcases Nat.lt_or_ge b w1.heap.size with h' | h'
    · exact h'
    · simp [Array.getElem?_eq_none h'] at hbk
  have hb2 : w2.heap[b]? = some (.cells #[.pointer (some ⟨b, 0, none⟩), v] 44 (0, 0)) := by
    rw [hgrow.block b (by simp; omega) (fun e => hne e.symm), Lib.alloc_old w1 _ b hlt]
    exact hbk
  have d0 : w2.cell? ⟨b, 0, none⟩ = some (.pointer (some ⟨b, 0, none⟩)) := by rw [Lib.cell_of_heap hb2]; rfl
  have d1 : w2.cell? ⟨b, 1, none⟩ = some v := by rw [Lib.cell_of_heap hb2]; rfl
  have f1 : w2.frozen? ⟨b, 1, none⟩ = false := Lib.frozen_of_heap hb2 1
  obtain ⟨g, cap, rfl⟩ : ∃ g cap, v' = .slice (some ⟨g, 0, none⟩) (bs.length + 1) cap := by
    rcases hown'.2 with ⟨_, h0⟩ | ⟨g, cap, cur, fz, hv, _⟩
    · omega
    · exact ⟨g, cap, hv⟩
  go_wp2
  go_ret
  refine ⟨rfl, ?_, ?_, ((hk1.alloc _).grown hgrow (Lib.ownsRowF_kind (hown.alloc _))).setCell ⟨b, 1, none⟩ rfl _⟩
  · exact Lib.BuilderAtF.put (T := 44) (e := 5) hB hb2 (bs' := bs ++ [.int .u8 c]) (by simpa using hown') Tryd.Builder_Extra_169.neB5
  · exact ((hb1.alloc (by have := hb1.size; omega) _).grown hgrow (by have := hb1.size; simp; omega) (fun k hk => (hown.lt k hk).1)).setCell (p := ⟨b, 1, none⟩) hB _
/-- A half byte's digit. -/
def hexD (n : Nat) : Nat := if n < 10 then 48 + n else 87 + n
/-- Two digits a byte. -/
def hexL (l : List UInt8) : List UInt8 := l.flatMap fun c => [UInt8.ofNat (hexD (c.toNat / 16)), UInt8.ofNat (hexD (c.toNat % 16))]
theorem hexL_len (l : List UInt8) : (hexL l).length = 2 * l.length := by
  induction l with
  | nil => rfl
  | cons c l ih =>
    have : hexL (c :: l) = [UInt8.ofNat (hexD (c.toNat / 16)), UInt8.ofNat (hexD (c.toNat % 16))] ++ hexL l := rfl
    rw [this, List.length_append, ih]
    simp
    omega
theorem hexL_snoc (l : List UInt8) (c : UInt8) : hexL (l ++ [c]) = hexL l ++ [UInt8.ofNat (hexD (c.toNat / 16))] ++ [UInt8.ofNat (hexD (c.toNat % 16))] := by
  unfold hexL
  rw [List.flatMap_append]
  simp
theorem band15 (n : Nat) (h : n < 256) : Go.bits .and .u8 (n : Int) 15 = (n : Int) % 16 := by
  have e0 : Go.bits .and .u8 (n : Int) 15 = IntKind.u8.wrap ((BitVec.ofInt 8 (n : Int) &&& BitVec.ofInt 8 15).toNat : Int) := rfl
  rw [e0, BitVec.toNat_and]
  have e1 : (BitVec.ofInt 8 (n : Int)).toNat = n := by
    rw [BitVec.ofInt_natCast, BitVec.toNat_ofNat]
    exact Nat.mod_eq_of_lt (by omega)
  have e2 : (BitVec.ofInt 8 (15 : Int)).toNat = 2 ^ 4 - 1 := by decide
  rw [e1, e2, Nat.and_two_pow_sub_one_eq_mod]
  have e3 : IntKind.u8.wrap ((n % 2 ^ 4 : Nat) : Int) = ((n % 2 ^ 4 : Nat) : Int) % 256 := by simp [IntKind.wrap, IntKind.bits, IntKind.signed]
  rw [e3]
  omega
theorem hexdig (n : Nat) (h : n < (⟨#[48, 49, 50, 51, 52, 53, 54, 55, 56, 57, 97, 98, 99, 100, 101, 102]⟩ : ByteArray).size) : ((⟨#[48, 49, 50, 51, 52, 53, 54, 55, 56, 57, 97, 98, 99, 100, 101, 102]⟩ : ByteArray)[n]'h).toNat = (UInt8.ofNat (hexD n)).toNat := by
  have h16 : n < 16 := h
  match n, h16 with
  | 0, _ => rfl
  | 1, _ => rfl
  | 2, _ => rfl
  | 3, _ => rfl
  | 4, _ => rfl
  | 5, _ => rfl
  | 6, _ => rfl
  | 7, _ => rfl
  | 8, _ => rfl
  | 9, _ => rfl
  | 10, _ => rfl
  | 11, _ => rfl
  | 12, _ => rfl
  | 13, _ => rfl
  | 14, _ => rfl
  | 15, _ => rfl
  | n + 16, h16 => exact absurd h16 (by omega)
theorem bldF_of {T e : TypeId} {B b : Nat} {bs : List Value} {w : World} (h : Lib.BuilderAtF T e B b (.pointer (some ⟨b, 0, none⟩)) bs w) : Lib.IsBuilderF T e B b bs w := Or.inr h
theorem byteCells_one (c : UInt8) : Lib.byteCells [c] = [.int .u8 (c.toNat : Int)] := rfl
def octets_Hex.f (a0 : ByteArray) : Option ByteArray := if a0.size ≤ 1099511627776 then some ⟨(hexL a0.data.toList).toArray⟩ else none
set_option maxHeartbeats 4000000 in
set_option maxRecDepth 100000 in
theorem octets_Hex.calls (a0 : ByteArray) (r : ByteArray) (w : World) (h : octets_Hex.f a0 = some r) :
    Calls Tryd.prog 14 #[.string a0] w fun e w' => e = .returned (.string r) ∧ Below w.heap.size w w' := by
  unfold octets_Hex.f at h
  by_cases hs : a0.size ≤ 1099511627776
  · rw [if_pos hs] at h
    obtain rfl := Option.some.inj h
    clear h
    go_enter Tryd.func14, Tryd.ntmps14
    go_wp2
    go_loopg [7] a0.size (fun kq v7 w' => ∃ i : Nat, v7 = .int .i64 (i : Int) ∧ Aside0 (i + kq = a0.size) ∧ Aside0 (Lib.IsBuilderF 44 5 w.heap.size w.heap.size (Lib.byteCells (hexL (a0.data.toList.take i))) w') ∧ Aside0 (Below w.heap.size w w'))
    case atStart =>
      refine ⟨0, rfl, ⟨by omega⟩, ⟨Or.inl ⟨Nat.le_refl _, .slice none 0 0, ?_, ⟨by simp, .inl ⟨rfl, rfl⟩⟩, by simp [Value.ownBlock]⟩⟩, ⟨(Below.refl _ _).alloc (Nat.le_refl _) _⟩⟩
      exact Array.getElem?_push_size
    case round =>
      obtain ⟨i, rfl, HI, HBd, HB⟩ := hrel
      by_cases hi : i < a0.size
      · have b10 : decide ((i : Int) < (a0.size : Int)) = true := decide_eq_true (by omega)
        have b11 : decide (i < a0.size) = true := decide_eq_true hi
        have hx := bt_at a0 (i : Int)
        have p1 := eq_true (show (0 : Int) ≤ (i : Int) by omega)
        have p2 := eq_true (show (i : Int) < (a0.size : Int) by omega)
        obtain ⟨m, rfl⟩ : ∃ m, gk = m + 1 := ⟨gk - 1, by have := HI.out; omega⟩
        have q1 := eq_true (show (0 : Int) ≤ (a0[i].toNat : Int) / 16 ∧ (a0[i].toNat : Int) / 16 < 16 by have := a0[i].toNat_lt; omega)
        have HL1 := Aside0.mk (show (Lib.byteCells (hexL (a0.data.toList.take i))).length + 1 ≤ 140737488355328 by rw [Lib.byteCells_length, hexL_len, List.length_take]; omega)
        have HL2 := Aside0.mk (show ∀ v : Value, (Lib.byteCells (hexL (a0.data.toList.take i)) ++ [v]).length + 1 ≤ 140737488355328 by intro v; rw [List.length_append, Lib.byteCells_length, hexL_len, List.length_take, List.length_singleton]; omega)
        have q2 := band15 a0[i].toNat a0[i].toNat_lt
        have q3 := eq_true (show (0 : Int) ≤ (a0[i].toNat : Int) % 16 ∧ (a0[i].toNat : Int) % 16 < 16 by omega)
        go_wp2_with (first | (go_at_call 21; (with_reducible refine (bld_byte w.heap.size w.heap.size _ _ _ (bldF_of HB1.out) (HL2.out _) (Nat.le_trans HB.out.size HC1.out.size)).mono ?_); rintro e2 w2 ⟨rfl, hb1, hb2, hk⟩; have HB2 := Aside0.mk hb1; have HC2 := Aside0.mk hb2; clear hb1 hb2 hk) | (go_at_call 21; (with_reducible refine (bld_byte w.heap.size w.heap.size _ _ _ HBd.out HL1.out HB.out.size).mono ?_); rintro e1 w1 ⟨rfl, hb1, hb2, hk⟩; have HB1 := Aside0.mk hb1; have HC1 := Aside0.mk hb2; clear hb1 hb2 hk))
        go_roundg m
        case measure => omega
        case rel =>
          refine ⟨i + 1, by simp, ⟨by have := HI.out; omega⟩, ⟨?_⟩, ⟨?_⟩⟩
          · have e := List.take_succ_eq_append_getElem (l := a0.data.toList) (i := i) (by rw [Array.length_toList]; exact hi)
            rw [e, hexL_snoc, Lib.byteCells_append, Lib.byteCells_append, byteCells_one, byteCells_one]
            have g := HB2.out
            rw [hexdig, hexdig] at g
            exact Or.inr g
          · exact (HB.out.trans HC1.out).trans HC2.out
      · have hir : i = a0.size := by have := HI.out; omega
        have b10 : decide ((i : Int) < (a0.size : Int)) = false := decide_eq_false (by omega)
        have b11 : decide (i < a0.size) = false := decide_eq_false hi
        go_wp2_with (go_at_call 22; (with_reducible refine (Tryd.Builder_String_any_k _ _ _ _ HBd.out HB.out.size).mono ?_); rintro e1 w1 ⟨rfl, hb1, hb2, hk⟩)
        go_ret
        have e : a0.data.toList.take a0.size = a0.data.toList := List.take_of_length_le (by rw [Array.length_toList]; exact Nat.le_refl _)
        refine ⟨?_, HB.out.trans hb2⟩
        show Ending.returned (.string ⟨(hexL (a0.data.toList.take a0.size)).toArray⟩) = _
        rw [e]
  · rw [if_neg hs] at h
    cases h

end Go.Proofs.YtclffgkefbdcpaaDoor.P
