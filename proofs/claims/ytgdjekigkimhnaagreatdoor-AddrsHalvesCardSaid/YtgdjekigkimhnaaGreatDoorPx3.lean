-- slim
-- Written by wip/hprint.py (this session's program) through the kit's print program; hand contracts are marked 'by hand'.
import Derived.Test.YtgdjekigkimhnaaGreatDoorAbb
import Derived.Test.YtgdjekigkimhnaaGreatDoorPx0
namespace Go.Proofs.YtgdjekigkimhnaaGreatDoor.P
open Go.RowKit Go.Proofs.YtgdjekigkimhnaaGreatDoorW.PrintWords Go.Proofs.YtgdjekigkimhnaaGreatDoorW.PrintLast Go.Proofs.YtgdjekigkimhnaaGreatDoorW.PrintMore
attribute [local go_sem] max2_int min2_int max_two min_two max_three min_three max_four min_four   -- for this text's walks alone
set_option linter.unusedVariables false
set_option linter.unusedSimpArgs false

/-! ### octets_Hex: function 38, by hand -/
-- IMPORT Derived.Test.YtgdjekigkimhnaaGreatDoorShelf
-- IMPORT Derived.Shelf.Strings.BuilderK
set_option maxHeartbeats 2000000 in
set_option maxRecDepth 100000 in
theorem bld_used (b : Nat) (w : World) (h0 : w.cell? ⟨b, 0, none⟩ = some (.pointer (some ⟨b, 0, none⟩))) :
  Calls Tryz.prog 71 #[.pointer (some ⟨b, 0, none⟩)] w fun e w' => e = .returned (.tuple #[]) ∧ w' = w := by
 obtain ⟨j, hj, _⟩ := Option.map_eq_some_iff.1 Tryz.Builder_Extra_169.sizeBuilder
 go_enter Tryz.func71, Tryz.ntmps71
 go_wp2
 rw [Lib.run_neq_ptr_same w _ Tryz.underlying71 hj]
 go_wp2
 go_end0
 exact ⟨rfl, rfl⟩
set_option maxHeartbeats 2000000 in
set_option maxRecDepth 100000 in
theorem bld_fresh (b : Nat) (w : World) (h0 : w.cell? ⟨b, 0, none⟩ = some (.pointer none)) (hsh : w.shape? b = some (73, 2)) (hfz : w.frozen? ⟨b, 0, none⟩ = false) :
  Calls Tryz.prog 71 #[.pointer (some ⟨b, 0, none⟩)] w fun e w' => e = .returned (.tuple #[]) ∧ w' = w.setCell ⟨b, 0, none⟩ (.pointer (some ⟨b, 0, none⟩)) := by
 obtain ⟨j, hj, hjs⟩ := Option.map_eq_some_iff.1 Tryz.Builder_Extra_169.sizeBuilder
 go_enter Tryz.func71, Tryz.ntmps71
 go_wp2
 rw [Lib.run_to_unsafe w ⟨b, 0, none⟩ Tryz.underlying71 Tryz.underlying94 hj (by rw [hjs]; decide) hsh (Nat.zero_lt_succ 1)]
 simp only [Result.andThen]
 rw [Oper.upon_value]
 go_wp2
 rw [run_callFunc_extern Tryz.func86 qg3m qg3m qg3m (e := Extern.AbiNoEscape.same) qg3m]
 rw [Lib.run_noEscape]
 simp only [Result.andThen]
 rw [Oper.upon_value]
 go_wp2
 rw [Lib.run_from_unsafe w ⟨b, 0, none⟩ Tryz.underlying94 Tryz.underlying71 hj hsh Tryz.Builder_Extra_169.liesBuilder]
 simp only [Result.andThen]
 rw [Oper.upon_value]
 go_wp2
 go_end0
 exact ⟨rfl, rfl⟩
theorem bld_check (B b : Nat) (bs : List Value) (w : World) (h : Lib.IsBuilderF 73 5 B b bs w) :
  Calls Tryz.prog 71 #[.pointer (some ⟨b, 0, none⟩)] w fun e w' => e = .returned (.tuple #[]) ∧ (Lib.BuilderAtF 73 5 B b (.pointer (some ⟨b, 0, none⟩)) bs w' ∧ Below B w w' ∧ Lib.OthersKept 5 (some b) w w') := by
 rcases h with h | h
 ·refine (bld_fresh b w h.cell0 h.shape h.frozen0).mono ?_
  rintro e w' ⟨rfl, rfl⟩
  exact ⟨rfl, h.used _, (Below.refl B w).setCell (p := ⟨b, 0, none⟩) h.1 _, (Lib.OthersKept.refl _ _ w).setCell ⟨b, 0, none⟩ rfl _⟩
 ·refine (bld_used b w h.cell0).mono ?_
  rintro e w' ⟨rfl, rfl⟩
  exact ⟨rfl, h, Below.refl B _, Lib.OthersKept.refl _ _ _⟩
set_option maxHeartbeats 2000000 in
set_option maxRecDepth 100000 in
theorem bld_byte (B b : Nat) (bs : List Value) (c : Int) (w : World) (h : Lib.IsBuilderF 73 5 B b bs w) (hlen : bs.length + 1 ≤ 140737488355328) (hBw : B ≤ w.heap.size) :
  Calls Tryz.prog 54 #[.pointer (some ⟨b, 0, none⟩), .int .u8 c] w fun e w' => e = .returned .nilIface ∧ (Lib.BuilderAtF 73 5 B b (.pointer (some ⟨b, 0, none⟩)) (bs ++ [.int .u8 c]) w' ∧ Below B w w' ∧ Lib.OthersKept 5 (some b) w w') := by
 obtain ⟨i0, hi, hz0, hz1, hz2⟩ := info_parts Tryz.Builder_Extra_169.infoByte
 have eCC : ∀ args w, (callFunc 71 args).run Tryz.prog w = .ok (.enter 71 args) w := enters_of Tryz.func71 qg3m rfl
 go_enter Tryz.func54, Tryz.ntmps54
 go_wp2_with (go_at_fn 71; refine (bld_check B b bs _ h).mono ?_)
 rintro e w1 ⟨rfl, h1, hb1, hk1⟩
 obtain ⟨hB, v, hbk, hown, hne⟩ := h1
 have c0 : w1.cell? ⟨b, 0, none⟩ = some (.pointer (some ⟨b, 0, none⟩)) := by rw [Lib.cell_of_heap hbk]; rfl
 have c1 : w1.cell? ⟨b, 1, none⟩ = some v := by rw [Lib.cell_of_heap hbk]; rfl
 go_wp2_with (at_builtin; refine wpList_append_ownF _ rfl _ _ 62 rfl B 5 i0 (.int .u8 0) 1 1 Tryz.underlying62 hi hz0 hz1 hz2 rfl qomw _ _ _ rfl (hown.alloc _) ⟨w1.heap.size, 0, none⟩ 1 1 [.int .u8 c] rfl rfl ?c1 ?c2 ?c3 ?c4 ?c5 ?_)
 case c1 =>
  intro j u hj
  match j, hj with
  | 0, hj => simp at hj; subst hj; simp [Addr.add]
 case c2 => intro u hu; simp at hu; subst hu; rfl
 case c3 => unfold maxLen; omega
 case c4 => omega
 case c5 => have := hb1.size; simp; omega
 intro v' w2 hown' hgrow _
 have hlt : b < w1.heap.size := by
  rcases Nat.lt_or_ge b w1.heap.size with h' | h'
  ·exact h'
  ·simp [Array.getElem?_eq_none h'] at hbk
 have hb2 : w2.heap[b]? = some (.cells #[.pointer (some ⟨b, 0, none⟩), v] 73 (0, 0)) := by
  rw [hgrow.block b (by simp; omega) (fun e => hne e.symm), Lib.alloc_old w1 _ b hlt]
  exact hbk
 have d0 : w2.cell? ⟨b, 0, none⟩ = some (.pointer (some ⟨b, 0, none⟩)) := by rw [Lib.cell_of_heap hb2]; rfl
 have d1 : w2.cell? ⟨b, 1, none⟩ = some v := by rw [Lib.cell_of_heap hb2]; rfl
 have f1 : w2.frozen? ⟨b, 1, none⟩ = false := Lib.frozen_of_heap hb2 1
 obtain ⟨g, cap, rfl⟩ : ∃ g cap, v' = .slice (some ⟨g, 0, none⟩) (bs.length + 1) cap := by
  rcases hown'.2 with ⟨_, h0⟩ | ⟨g, cap, cur, fz, hv, _⟩
  ·omega
  ·exact ⟨g, cap, hv⟩
 go_wp2
 go_ret
 refine ⟨rfl, ?_, ?_, ((hk1.alloc _).grown hgrow (Lib.ownsRowF_kind (hown.alloc _))).setCell ⟨b, 1, none⟩ rfl _⟩
 ·exact Lib.BuilderAtF.put (T := 73) (e := 5) hB hb2 (bs' := bs ++ [.int .u8 c]) (by simpa using hown') Tryz.Builder_Extra_169.neB5
 ·exact ((hb1.alloc (by have := hb1.size; omega) _).grown hgrow (by have := hb1.size; simp; omega) (fun k hk => (hown.lt k hk).1)).setCell (p := ⟨b, 1, none⟩) hB _
/-- A half byte's digit. -/
def hexD (n : Nat) : Nat := if n < 10 then 48 + n else 87 + n
/-- Two digits a byte. -/
def hexL (l : List UInt8) : List UInt8 := l.flatMap fun c => [UInt8.ofNat (hexD (c.toNat / 16)), UInt8.ofNat (hexD (c.toNat % 16))]
theorem hexL_len (l : List UInt8) : (hexL l).length = 2 * l.length := by
 induction l with
 | nil => rfl
 | cons c l ih =>
  have : hexL (c :: l) = [UInt8.ofNat (hexD (c.toNat / 16)), UInt8.ofNat (hexD (c.toNat % 16))] ++ hexL l := rfl
  rw [this, List.length_append, ih]
  simp
  omega
theorem hexL_snoc (l : List UInt8) (c : UInt8) : hexL (l ++ [c]) = hexL l ++ [UInt8.ofNat (hexD (c.toNat / 16))] ++ [UInt8.ofNat (hexD (c.toNat % 16))] := by
 unfold hexL
 rw [List.flatMap_append]
 simp
theorem band15 (n : Nat) (h : n < 256) : Go.bits .and .u8 (n : Int) 15 = (n : Int) % 16 := by
 have e0 : Go.bits .and .u8 (n : Int) 15 = IntKind.u8.wrap ((BitVec.ofInt 8 (n : Int) &&& BitVec.ofInt 8 15).toNat : Int) := rfl
 rw [e0, BitVec.toNat_and]
 have e1 : (BitVec.ofInt 8 (n : Int)).toNat = n := by
  rw [BitVec.ofInt_natCast, BitVec.toNat_ofNat]
  exact Nat.mod_eq_of_lt q1jy
 have e2 : (BitVec.ofInt 8 (15 : Int)).toNat = 2 ^ 4 - 1 := by decide
 rw [e1, e2, Nat.and_two_pow_sub_one_eq_mod]
 have e3 : IntKind.u8.wrap ((n % 2 ^ 4 : Nat) : Int) = ((n % 2 ^ 4 : Nat) : Int) % 256 := by simp [IntKind.wrap, IntKind.bits, IntKind.signed]
 rw [e3]
 omega
theorem hexdig (n : Nat) (h : n < (⟨#[48, 49, 50, 51, 52, 53, 54, 55, 56, 57, 97, 98, 99, 100, 101, 102]⟩ : ByteArray).size) : ((⟨#[48, 49, 50, 51, 52, 53, 54, 55, 56, 57, 97, 98, 99, 100, 101, 102]⟩ : ByteArray)[n]'h).toNat = (UInt8.ofNat (hexD n)).toNat := by
 have h16 : n < 16 := h
 match n, h16 with
 | 0, _ => rfl
 | 1, _ => rfl
 | 2, _ => rfl
 | 3, _ => rfl
 | 4, _ => rfl
 | 5, _ => rfl
 | 6, _ => rfl
 | 7, _ => rfl
 | 8, _ => rfl
 | 9, _ => rfl
 | 10, _ => rfl
 | 11, _ => rfl
 | 12, _ => rfl
 | 13, _ => rfl
 | 14, _ => rfl
 | 15, _ => rfl
 | n + 16, h16 => exact absurd h16 q1jy
theorem bldF_of {T e : TypeId} {B b : Nat} {bs : List Value} {w : World} (h : Lib.BuilderAtF T e B b (.pointer (some ⟨b, 0, none⟩)) bs w) : Lib.IsBuilderF T e B b bs w := Or.inr h
theorem byteCells_one (c : UInt8) : Lib.byteCells [c] = [.int .u8 (c.toNat : Int)] := rfl
def octets_Hex.f (a0 : ByteArray) : Option ByteArray := if a0.size ≤ 1099511627776 then some ⟨(hexL a0.data.toList).toArray⟩ else none
set_option maxHeartbeats 4000000 in
set_option maxRecDepth 100000 in
theorem octets_Hex.calls (a0 : ByteArray) (r : ByteArray) (w : World) (h : octets_Hex.f a0 = some r) :
  Calls Tryz.prog 38 #[.string a0] w fun e w' => e = .returned (.string r) ∧ Below w.heap.size w w' := by
 unfold octets_Hex.f at h
 by_cases hs : a0.size ≤ 1099511627776
 ·rw [if_pos hs] at h
  obtain rfl := Option.some.inj h
  clear h
  go_enter Tryz.func38, Tryz.ntmps38
  go_wp2
  go_loopg [7] a0.size (fun kq v7 w' => ∃ i : Nat, v7 = .int .i64 (i : Int) ∧ Aside0 (i + kq = a0.size) ∧ Aside0 (Lib.IsBuilderF 73 5 w.heap.size w.heap.size (Lib.byteCells (hexL (a0.data.toList.take i))) w') ∧ Aside0 (Below w.heap.size w w'))
  case atStart =>
   refine ⟨0, rfl, ⟨q1jy⟩, ⟨Or.inl ⟨Nat.le_refl _, .slice none 0 0, ?_, ⟨q6hr, .inl ⟨rfl, rfl⟩⟩, (by simp [Value.ownBlock])⟩⟩, ⟨(Below.refl _ _).alloc (Nat.le_refl _) _⟩⟩
   exact Array.getElem?_push_size
  case round =>
   obtain ⟨i, rfl, HI, HBd, HB⟩ := hrel
   by_cases hi : i < a0.size
   ·have b10 : decide ((i : Int) < (a0.size : Int)) = true := decide_eq_true q1jy
    have b11 : decide (i < a0.size) = true := decide_eq_true hi
    have hx := bt_at a0 (i : Int)
    have p1 := eq_true (show (0 : Int) ≤ (i : Int) by omega)
    have p2 := eq_true (show (i : Int) < (a0.size : Int) by omega)
    obtain ⟨m, rfl⟩ : ∃ m, gk = m + 1 := ⟨gk - 1, (by have := HI.out; omega)⟩
    have q1 := eq_true (show (0 : Int) ≤ (a0[i].toNat : Int) / 16 ∧ (a0[i].toNat : Int) / 16 < 16 by have := a0[i].toNat_lt; omega)
    have HL1 := Aside0.mk (show (Lib.byteCells (hexL (a0.data.toList.take i))).length + 1 ≤ 140737488355328 by rw [Lib.byteCells_length, hexL_len, List.length_take]; omega)
    have HL2 := Aside0.mk (show ∀ v : Value, (Lib.byteCells (hexL (a0.data.toList.take i)) ++ [v]).length + 1 ≤ 140737488355328 by intro v; rw [List.length_append, Lib.byteCells_length, hexL_len, List.length_take, List.length_singleton]; omega)
    have q2 := band15 a0[i].toNat a0[i].toNat_lt
    have q3 := eq_true (show (0 : Int) ≤ (a0[i].toNat : Int) % 16 ∧ (a0[i].toNat : Int) % 16 < 16 by omega)
    go_wp2_with (first | (go_at_call 54; (with_reducible refine (bld_byte w.heap.size w.heap.size _ _ _ (bldF_of HB1.out) (HL2.out _) (Nat.le_trans HB.out.size HC1.out.size)).mono ?_); rintro e2 w2 ⟨rfl, hb1, hb2, hk⟩; have HB2 := Aside0.mk hb1; have HC2 := Aside0.mk hb2; clear hb1 hb2 hk) | (go_at_call 54; (with_reducible refine (bld_byte w.heap.size w.heap.size _ _ _ HBd.out HL1.out HB.out.size).mono ?_); rintro e1 w1 ⟨rfl, hb1, hb2, hk⟩; have HB1 := Aside0.mk hb1; have HC1 := Aside0.mk hb2; clear hb1 hb2 hk))
    go_roundg m
    case measure => omega
    case rel =>
     refine ⟨i + 1, q6hr, ⟨(by have := HI.out; omega)⟩, ⟨?_⟩, ⟨?_⟩⟩
     ·have e := List.take_succ_eq_append_getElem (l := a0.data.toList) (i := i) (by rw [Array.length_toList]; exact hi)
      rw [e, hexL_snoc, Lib.byteCells_append, Lib.byteCells_append, byteCells_one, byteCells_one]
      have g := HB2.out
      rw [hexdig, hexdig] at g
      exact Or.inr g
     ·exact (HB.out.trans HC1.out).trans HC2.out
   ·have hir : i = a0.size := by have := HI.out; omega
    have b10 : decide ((i : Int) < (a0.size : Int)) = false := decide_eq_false q1jy
    have b11 : decide (i < a0.size) = false := decide_eq_false hi
    go_wp2_with (go_at_call 55; (with_reducible refine (Tryz.Builder_String_any_k _ _ _ _ HBd.out HB.out.size).mono ?_); rintro e1 w1 ⟨rfl, hb1, hb2, hk⟩)
    go_ret
    have e : a0.data.toList.take a0.size = a0.data.toList := List.take_of_length_le (by rw [Array.length_toList]; exact Nat.le_refl _)
    refine ⟨?_, HB.out.trans hb2⟩
    show Ending.returned (.string ⟨(hexL (a0.data.toList.take a0.size)).toArray⟩) = _
    rw [e]
 ·rw [if_neg hs] at h
  cases h

/-! ### strings_Join: function 39, by hand -/
-- IMPORT Derived.Test.YtgdjekigkimhnaaGreatDoorShelf
def joined_ (l : List ByteArray) (s : ByteArray) : List UInt8 := Go.Lib.join (l.map (·.data.toList)) s.data.toList
def strings_Join.f (l0 : List ByteArray) (a1 : ByteArray) : Option (ByteArray) :=
 if l0.length ≤ 140737488355328 then (if (joined_ l0 a1).length ≤ 140737488355328 then some ⟨(joined_ l0 a1).toArray⟩ else none) else none
theorem spot_none_ {w : World} {a : Addr} {v : Value} (h : w.cell? a = some v) : a.spot = none := by
 unfold World.cell? at h
 split at h
 ·split at h
  ·cases h
  ·rename_i _ h2
   cases hs : a.spot with
   | none => rfl
   | some x => rw [hs] at h2; exact absurd rfl h2
 ·cases h
theorem lt_heap_ {w : World} {a : Addr} {v : Value} (h : w.cell? a = some v) : a.block < w.heap.size := by
 unfold World.cell? at h
 split at h
 ·rename_i h1
  exact (Array.getElem?_eq_some_iff.1 h1).1
 ·cases h
theorem strings_Join.calls (A0 : Option Addr) (c0 : Nat) (l0 : List ByteArray) (a1 : ByteArray) (r : ByteArray) (w : World) (hr0 : Kd.C Kd.string w A0 l0.length l0) (hc0 : l0.length ≤ c0) (h : strings_Join.f l0 a1 = some r) :
  Calls Tryz.prog 39 #[.slice A0 l0.length c0, .string a1] w fun e w' => e = .returned (.string r) ∧ Below w.heap.size w w' := by
 unfold strings_Join.f at h
 by_cases h1 : l0.length ≤ 140737488355328
 ·rw [if_pos h1] at h
  by_cases h2 : (joined_ l0 a1).length ≤ 140737488355328
  ·rw [if_pos h2] at h
   cases h
   have hr := Kd.reads_of_C (enc := Value.string) (d := ByteArray.empty) (h1 := fun _ => rfl) hr0
   match l0, hr, hc0, h1, h2 with
   | [], _, _, _, _ => exact (Tryz.strings_Join_none A0 c0 a1 w).mono fun e w' ⟨he, hw⟩ => ⟨he, hw ▸ Below.refl _ _⟩
   | x :: xs, hr, hc0, h1, h2 =>
    have hat := fun (j : Nat) (hj : j < (x :: xs).length) => hr.at_ (j : Int) (Int.natCast_nonneg j) (Int.ofNat_lt.2 hj)
    obtain ⟨ad, rfl, hc⟩ := hat 0 (Nat.zero_lt_succ _)
    have hsp : ad.spot = none := by
     have := spot_none_ hc
     simpa [Addr.add] using this
    have hlt : ad.block < w.heap.size := by
     have := lt_heap_ hc
     simpa [Addr.add] using this
    obtain ⟨bk, o, sp⟩ := ad
    simp only at hsp hlt
    subst hsp
    refine Tryz.strings_Join bk o c0 (x :: xs) a1 w (fun j y hy => ?_) hlt h1 hc0 h2
    have hj := (List.getElem?_eq_some_iff.1 hy).1
    obtain ⟨ad, he, hcell⟩ := hat j hj
    cases he
    have e : (rdOf ByteArray.empty (x :: xs) (j : Int)) = y := by
     simp only [rdOf, Int.toNat_natCast, List.getD_eq_getElem?_getD, hy, Option.getD_some]
    rw [e, Int.toNat_natCast] at hcell
    cases j with
    | zero => simpa [Addr.add] using hcell
    | succ j => simpa [Addr.add] using hcell
  ·rw [if_neg h2] at h
   cases h
 ·rw [if_neg h1] at h
  cases h

end Go.Proofs.YtgdjekigkimhnaaGreatDoor.P
namespace Go.Proofs.YtgdjekigkimhnaaGreatDoor.P
open Go.RowKit Go.Proofs.YtgdjekigkimhnaaGreatDoorW.PrintWords Go.Proofs.YtgdjekigkimhnaaGreatDoorW.PrintLast Go.Proofs.YtgdjekigkimhnaaGreatDoorW.PrintMore
attribute [local go_sem] max2_int min2_int max_two min_two max_three min_three max_four min_four   -- for this text's walks alone
set_option linter.unusedVariables false
set_option linter.unusedSimpArgs false

/-! ### octets_Put: function 37 -/
mutual
def octets_Put.j0 : Nat → Int → Int → Bool → Option (ByteArray × Int)
 | 0, _, _, _ => none
 | k + 1, x0, x1, x24 => if x24 = true then (some ((⟨#[]⟩ : ByteArray), 1)) else (if 0 ≤ x1 then (if (x1 : Int).toNat ≤ 281474976710656 then ((some (List.replicate (x1 : Int).toNat 0 : List Int)).bind fun y101 => (octets_Put.l0 k x0 x1 y101 (y101.length : Int) 0)) else (none)) else (none))
def octets_Put.l0 : Nat → Int → Int → List Int → Int → Int → Option (ByteArray × Int)
 | 0, _, _, _, _, _ => none
 | k + 1, x0, x1, x6, x28, x29 => if x29 < x28 then (if 0 ≤ (wrap64 (8 * x29)) then (if 0 ≤ (wrap64 ((wrap64 (x1 - 1)) - x29)) then (if (wrap64 ((wrap64 (x1 - 1)) - x29)) < (x6.length : Int) then (octets_Put.l0 k x0 x1 (x6.set ((wrap64 ((wrap64 (x1 - 1)) - x29)) : Int).toNat ((shr .u64 x0 (wrap64 (8 * x29))) % 256)) x28 (wrap64 (x29 + 1))) else (none)) else (none)) else (none)) else (some (strOfNums x6, 0))
end
def octets_Put.f (k : Nat) (a0 : Int) (a1 : Int) : Option (ByteArray × Int) := if a1 < 1 then (octets_Put.j0 k a0 a1 true) else (if a1 > 8 then (octets_Put.j0 k a0 a1 true) else (if a1 < 8 then (if 0 ≤ (wrap64 (8 * a1)) then (octets_Put.j0 k a0 a1 ((shr .u64 a0 (wrap64 (8 * a1))) != 0)) else (none)) else (octets_Put.j0 k a0 a1 false)))
theorem octets_Put.mono_l : ∀ k, (∀ y0 y1 y2, LeO (octets_Put.j0 k y0 y1 y2) (octets_Put.j0 (k + 1) y0 y1 y2)) ∧ (∀ y0 y1 y2 y3 y4, LeO (octets_Put.l0 k y0 y1 y2 y3 y4) (octets_Put.l0 (k + 1) y0 y1 y2 y3 y4))
 | 0 => ⟨fun _ _ _ r h => by simp [octets_Put.j0] at h, fun _ _ _ _ _ r h => by simp [octets_Put.l0] at h⟩
 | k + 1 => by
  obtain ⟨ih0, ih1⟩ := octets_Put.mono_l k
  refine ⟨?_, ?_⟩
  ·intro y0 y1 y2
   unfold octets_Put.j0
   repeat' first
   | (with_reducible exact ih0 _ _ _)
   | (with_reducible exact ih1 _ _ _ _ _)
   | (with_reducible exact LeO.refl _)
   | (with_reducible exact LeO.none _)
   | (with_reducible refine LeO.ite ?_ ?_)
   | (with_reducible refine LeO.bind ?_ (fun _ => ?_))
   | exact ih0 _ _ _
   | exact ih1 _ _ _ _ _
   | exact LeO.none _
   | refine LeO.ite ?_ ?_
   | refine LeO.bind ?_ (fun _ => ?_)
  ·intro y0 y1 y2 y3 y4
   unfold octets_Put.l0
   repeat' first
   | (with_reducible exact ih0 _ _ _)
   | (with_reducible exact ih1 _ _ _ _ _)
   | (with_reducible exact LeO.refl _)
   | (with_reducible exact LeO.none _)
   | (with_reducible refine LeO.ite ?_ ?_)
   | (with_reducible refine LeO.bind ?_ (fun _ => ?_))
   | exact ih0 _ _ _
   | exact ih1 _ _ _ _ _
   | exact LeO.none _
   | refine LeO.ite ?_ ?_
   | refine LeO.bind ?_ (fun _ => ?_)
theorem octets_Put.mono : ∀ a0 a1 k, LeO (octets_Put.f k a0 a1) (octets_Put.f (k + 1) a0 a1) := by
 intro a0 a1 k
 obtain ⟨ih0, ih1⟩ := octets_Put.mono_l k
 unfold octets_Put.f
 repeat' first
   | (with_reducible exact ih0 _ _ _)
   | (with_reducible exact ih1 _ _ _ _ _)
   | (with_reducible exact LeO.refl _)
   | (with_reducible exact LeO.none _)
   | (with_reducible refine LeO.ite ?_ ?_)
   | (with_reducible refine LeO.bind ?_ (fun _ => ?_))
   | exact ih0 _ _ _
   | exact ih1 _ _ _ _ _
   | exact LeO.none _
   | refine LeO.ite ?_ ?_
   | refine LeO.bind ?_ (fun _ => ?_)
theorem z2_0 {p : Prop} (h : p := by
 go_wp2
 go_ret2
 exact ⟨qxu5, qpag⟩) : p := h
theorem z2_1 {p : Prop} (h : p := by
 have H' := Aside0.mk H
 clear H
 go_wp2
 go_meet
 case rel => exact ⟨_, (true), q8z4, H', ⟨qpfc⟩, ⟨qpag⟩⟩) : p := h
set_option maxHeartbeats 8000000 in
set_option maxRecDepth 100000 in
theorem octets_Put.calls (k : Nat) (a0 : Int) (a1 : Int) (r1 : ByteArray) (r2 : Int) (w : World) (h : octets_Put.f k a0 a1 = some (r1, r2)) :
  Calls Tryz.prog 37 #[.int .u64 a0, .int .i64 a1] w fun e w' => e = .returned (.tuple #[.string r1, .int .i64 r2]) ∧ Below w.heap.size w w' := by
 have HB := Aside0.mk (Below.refl w.heap.size w)
 have H := h
 unfold octets_Put.f at H
 clear h
 have HC3 := Aside0.mk H
 clear H
 go_enter Tryz.func37, Tryz.ntmps37
 go_upto_region 1 with (fail)
 go_cut [24] (fun v24 wc => ∃ (kq : Nat) (x24_2 : Bool), v24 = .bool x24_2 ∧ Aside0 (octets_Put.j0 kq a0 a1 x24_2 = some (r1, r2)) ∧ Aside0 (kq ≤ k) ∧ Aside0 (Below w.heap.size w wc))
 case first =>
  have H := HC3.out
  clear HC3
  by_cases c4 : a1 < 1
  ·rw [if_pos c4] at H
   have c4b0 : decide (a1 < 1) = true := decide_eq_true c4
   clear c4
   (first | rw [c4b0] | (simp only [i64_w, i32_w]; rw [c4b0]) | skip)
   exact z2_1
  ·rw [if_neg c4] at H
   have c4b0 : decide (a1 < 1) = false := decide_eq_false c4
   clear c4
   (first | rw [c4b0] | (simp only [i64_w, i32_w]; rw [c4b0]) | skip)
   by_cases c5 : a1 > 8
   ·rw [if_pos c5] at H
    have c5b0 : decide (8 < a1) = true := decide_eq_true c5
    clear c5
    exact z2_1
   ·rw [if_neg c5] at H
    have c5b0 : decide (8 < a1) = false := decide_eq_false c5
    clear c5
    by_cases c6 : a1 < 8
    ·rw [if_pos c6] at H
     have c6b0 : decide (a1 < 8) = true := decide_eq_true c6
     clear c6
     obtain ⟨ji7, hji7⟩ : ∃ j_ : Int, (wrap64 (8 * a1)) = j_ := ⟨_, rfl⟩
     replace H : (if 0 ≤ (ji7) then (octets_Put.j0 k a0 a1 ((shr .u64 a0 (ji7)) != 0)) else (none)) = some (r1, r2) := by first | (rw [hji7] at H; exact H) | (simp only [hji7] at H ⊢; exact H)
     have hji7w : (IntKind.i64.wrap (8 * a1)) = ji7 := (i64_w _).trans hji7
     by_cases c8 : 0 ≤ (ji7)
     ·rw [if_pos c8] at H
      have c8b0 := eq_true c8
      have c8b1 : decide (0 ≤ (ji7)) = true := decide_eq_true c8
      clear c8
      obtain ⟨ji9, hji9⟩ : ∃ j_ : Int, (shr .u64 a0 (ji7)) = j_ := ⟨_, rfl⟩
      replace H : (octets_Put.j0 k a0 a1 ((ji9) != 0)) = some (r1, r2) := by first | (rw [hji9] at H; exact H) | (simp only [hji9] at H ⊢; exact H)
      have hji9_ : (a0 / 2 ^ min (ji7).toNat 64) = ji9 := hji9
      have hji9z : (ji7) ≤ 64 → (a0 / 2 ^ (ji7).toNat) = ji9 := shr_small hji9
      have H' := Aside0.mk H
      clear H
      go_wp2
      go_meet
      case rel => exact ⟨_, (((ji9) != 0)), (by first | rfl | (simp; done) | (simp only [← hji9] <;> (first | rfl | simp)) | (simp [*]; done)), H', ⟨qpfc⟩, ⟨qpag⟩⟩
     ·rw [if_neg c8] at H
      exact absurd H q6hr
    ·rw [if_neg c6] at H
     have c6b0 : decide (a1 < 8) = false := decide_eq_false c6
     clear c6
     have H' := Aside0.mk H
     clear H
     go_wp2
     go_meet
     case rel => exact ⟨_, (false), q8z4, H', ⟨qpfc⟩, ⟨qpag⟩⟩
 case rest =>
  clear HC3
  try clear p2
  try clear c3
  try clear c4
  try clear c4b0
  try clear c5
  try clear c5b0
  try clear c6
  try clear c6b0
  try clear p6
  try clear c8
  try clear c8b0
  try clear c8b1
  obtain ⟨kq, x24_2, rfl, HA, HJ2, HB⟩ := hcut
  cases kq with
  | zero => exact absurd HA.out (by simp [octets_Put.j0])
  | succ kj2 =>
   have H := HA.out
   clear HA
   simp only [octets_Put.j0] at H
   by_cases c10 : x24_2 = true
   ·subst c10
    rw [if_pos rfl] at H
    simp only [Option.some.injEq, Prod.mk.injEq] at H
    obtain ⟨rfl, rfl⟩ := H
    exact z2_0
   ·replace c10 := Bool.eq_false_iff.mpr c10
    subst c10
    rw [if_neg (show ¬ (false = true) by decide)] at H
    by_cases c11 : 0 ≤ a1
    ·rw [if_pos c11] at H
     have c11b0 := eq_true c11
     have c11b1 : decide (0 ≤ a1) = true := decide_eq_true c11
     clear c11
     by_cases c12 : (a1 : Int).toNat ≤ 281474976710656
     ·rw [if_pos c12] at H
      have c12b0 := eq_true c12
      have c12b1 : decide ((a1 : Int).toNat ≤ 281474976710656) = true := decide_eq_true c12
      clear c12
      obtain ⟨y101, hy101⟩ : ∃ y_ : List Int, y_ = (List.replicate (a1 : Int).toNat 0) := ⟨_, rfl⟩
      replace H : (octets_Put.l0 kj2 a0 a1 y101 (y101.length : Int) 0) = some (r1, r2) := by first | (rw [hy101]; with_reducible exact H) | (have H2_ := (Option.bind_some _ _).symm.trans H; rw [hy101]; with_reducible exact H2_) | (have H2_ := (Option.bind_some _ _).symm.trans H; with_reducible exact H2_) | with_reducible exact H | (rw [hy101]; exact H) | exact H
      have Ny101 := Aside0.mk hy101
      clear hy101
      have H' := Aside0.mk H
      clear H
      go_wp2_with (first | ((with_reducible refine gate_dst (N := 26) rfl ?_); refine Kd.R_make (Kd.int .u8) _ 5 rfl (N := 26) rfl 62 _ _ rfl a1 rfl rfl Tryz.underlying62 (.int .u8 0) 1 info5 rfl qomw q1jy 0 (ok := fun _ => True) (okp := fun _ => True) rfl (fun _ hk => hk) trivial (of_decide_eq_true qlss) (Nat.le_trans (Nat.mul_le_mul_right _ (of_decide_eq_true qlss : a1.toNat ≤ 281474976710656)) q1jy) (Below.refl _ _) (Nat.le_refl _) ?_; intro v102 w13 ho14 hb hg_ hnew_; clear hg_ hnew_; (first | rw [← Ny101.out] at ho14 | (simp only [Int.reduceToNat] at ho14; rw [← Ny101.out] at ho14)); have HO103 := Aside0.mk (Kd.R_lower ho14 (below_size qpag)); replace HB := Aside0.mk (below_step qpag hb); clear hb ho14; obtain ⟨Ao15, co15, eo15⟩ := Kd.R_slice HO103.out; subst eo15))
      go_loopg [29] kj2 (fun kq v29 w' => ∃ (x6_2 : List Int) (x29_2 : Int), v29 = .int .i64 x29_2 ∧ Aside0 (octets_Put.l0 kq a0 a1 x6_2 (y101.length : Int) x29_2 = some (r1, r2)) ∧ Aside0 (kq ≤ kj2) ∧ Aside0 (Kd.R (Kd.int .u8) 5 w' w.heap.size (fun _ => True) (.slice Ao15 y101.length co15) x6_2) ∧ Aside0 (Below w.heap.size w w'))
      case atStart => exact ⟨(y101), (0), q8z4, H', ⟨Nat.le_refl _⟩, ⟨(by (with_reducible repeat (first | apply Kd.R_alloc | apply Kd.R_drewN | apply Kd.R_drew)); exact HO103.out)⟩, ⟨qpag⟩⟩
      case round =>
       clear H'
       try clear c1
       try clear p2
       try clear c3
       try clear c4
       try clear c4b0
       try clear c5
       try clear c5b0
       try clear c6
       try clear c6b0
       try clear p6
       try clear c8
       try clear c8b0
       try clear c8b1
       try clear c10
       try clear c11
       try clear c11b0
       try clear c11b1
       try clear c12
       try clear c12b0
       try clear c12b1
       try clear p2
       try clear p6
       obtain ⟨x6_2, x29_2, rfl, HA, HK2, HO_6, HB⟩ := hrel
       have hl6_2 := (Kd.R_reads' HO_6.out).1
       rw [hl6_2] at HO_6
       (try simp only [hl6_2])
       cases gk with
       | zero => exact absurd HA.out (by simp [octets_Put.l0])
       | succ k2 =>
        have H := HA.out
        clear HA
        simp only [octets_Put.l0] at H
        by_cases c16 : x29_2 < (y101.length : Int)
        ·rw [if_pos c16] at H
         have c16b0 : decide (x29_2 < (y101.length : Int)) = true := decide_eq_true c16
         first | (have c16b0l : decide (x29_2 < ((x6_2 : List Int).length : Int)) = true := by rw [← hl6_2]; exact c16b0) | skip
         clear c16
         obtain ⟨ji17, hji17⟩ : ∃ j_ : Int, (wrap64 (8 * x29_2)) = j_ := ⟨_, rfl⟩
         replace H : (if 0 ≤ (ji17) then (if 0 ≤ (wrap64 ((wrap64 (a1 - 1)) - x29_2)) then (if (wrap64 ((wrap64 (a1 - 1)) - x29_2)) < (x6_2.length : Int) then (octets_Put.l0 k2 a0 a1 (x6_2.set ((wrap64 ((wrap64 (a1 - 1)) - x29_2)) : Int).toNat ((shr .u64 a0 (ji17)) % 256)) (y101.length : Int) (wrap64 (x29_2 + 1))) else (none)) else (none)) else (none)) = some (r1, r2) := by first | (rw [hji17] at H; exact H) | (simp only [hji17] at H ⊢; exact H)
         have hji17w : (IntKind.i64.wrap (8 * x29_2)) = ji17 := (i64_w _).trans hji17
         by_cases c18 : 0 ≤ (ji17)
         ·rw [if_pos c18] at H
          have c18b0 := eq_true c18
          have c18b1 : decide (0 ≤ (ji17)) = true := decide_eq_true c18
          clear c18
          obtain ⟨ji19, hji19⟩ : ∃ j_ : Int, (shr .u64 a0 (ji17)) = j_ := ⟨_, rfl⟩
          replace H : (if 0 ≤ (wrap64 ((wrap64 (a1 - 1)) - x29_2)) then (if (wrap64 ((wrap64 (a1 - 1)) - x29_2)) < (x6_2.length : Int) then (octets_Put.l0 k2 a0 a1 (x6_2.set ((wrap64 ((wrap64 (a1 - 1)) - x29_2)) : Int).toNat ((ji19) % 256)) (y101.length : Int) (wrap64 (x29_2 + 1))) else (none)) else (none)) = some (r1, r2) := by first | (rw [hji19] at H; exact H) | (simp only [hji19] at H ⊢; exact H)
          have hji19_ : (a0 / 2 ^ min (ji17).toNat 64) = ji19 := hji19
          have hji19z : (ji17) ≤ 64 → (a0 / 2 ^ (ji17).toNat) = ji19 := shr_small hji19
          obtain ⟨ji20, hji20⟩ : ∃ j_ : Int, (wrap64 ((wrap64 (a1 - 1)) - x29_2)) = j_ := ⟨_, rfl⟩
          replace H : (if 0 ≤ (ji20) then (if (ji20) < (x6_2.length : Int) then (octets_Put.l0 k2 a0 a1 (x6_2.set ((ji20) : Int).toNat ((ji19) % 256)) (y101.length : Int) (wrap64 (x29_2 + 1))) else (none)) else (none)) = some (r1, r2) := by first | (rw [hji20] at H; exact H) | (simp only [hji20] at H ⊢; exact H)
          have hji20w : (IntKind.i64.wrap ((wrap64 (a1 - 1)) - x29_2)) = ji20 := (i64_w _).trans hji20
          by_cases c21 : 0 ≤ (ji20)
          ·rw [if_pos c21] at H
           have c21b0 : decide (0 ≤ (ji20)) = true := decide_eq_true c21
           clear c21
           by_cases c22 : (ji20) < (x6_2.length : Int)
           ·rw [if_pos c22] at H
            have c22b0 : decide ((ji20) < (x6_2.length : Int)) = true := decide_eq_true c22
            clear c22
            obtain ⟨y104, hy104⟩ : ∃ y_ : List Int, y_ = (x6_2.set ((ji20) : Int).toNat ((ji19) % 256)) := ⟨_, rfl⟩
            replace H : (octets_Put.l0 k2 a0 a1 y104 (y101.length : Int) (wrap64 (x29_2 + 1))) = some (r1, r2) := by first | (rw [hy104]; with_reducible exact H) | (have H2_ := (Option.bind_some _ _).symm.trans H; rw [hy104]; with_reducible exact H2_) | (have H2_ := (Option.bind_some _ _).symm.trans H; with_reducible exact H2_) | with_reducible exact H | (rw [hy104]; exact H) | exact H
            have Ny104 := Aside0.mk hy104
            clear hy104
            have H' := Aside0.mk H
            clear H
            have p23 : 0 ≤ ((ji20) : Int) := of_decide_eq_true qlss
            have q23 : ((ji20) : Int) < ((x6_2.length : Int) : Int) := of_decide_eq_true qlss
            obtain ⟨go23, co23, eo23, gb23, gl23, cl23, HG23⟩ := Kd.R_form HO_6.out q1jy
            (first | cases eo23 | (injection eo23 with ea_ en_ ec_; (first | subst ea_ | (injection ea_ with ea_; subst ea_)); subst ec_; clear en_))
            have GB23 := Aside0.mk gb23
            have GG23 := Aside0.mk HG23
            clear gb23 gl23 HG23
            obtain ⟨hx23_0, hf23_0⟩ := Kd.R_celln 0 HO_6.out ((ji20) : Int) p23 q23
            replace p23 := eq_true p23
            replace q23 := eq_true q23
            have HP24 := Kd.R_putg HO_6.out ((ji20) : Int) ((ji19) % 256)
            go_wp2_with (first | ((with_reducible refine gate_store (t := 5) (p := 42) rfl ?_); refine store_event (t := 5) (p := 42) (v := ?vo_w25) (w1 := (wr.setCell ⟨go23, ((ji20) : Int).toNat, none⟩ (.int .u8 ((ji19) % 256)))) ?hg ?ho ?hn ?hr ?_; (case ho => rfl); (case hg => rfl); (case hn => rfl); (case hr => first | (go_simp; done) | (go_simp; rfl)); intro w25 hw; have hg : wr.grownBy w25 (some go23) := (by rw [hw]; exact HP24.2); have hp_ : Kd.R (Kd.int .u8) 5 w25 w.heap.size (fun _ => True) (.slice (some ⟨go23, 0, none⟩) x6_2.length co15) y104 := (by rw [hw, Ny104.out]; exact HP24.1); clear HP24; replace HO_6 := Aside0.mk (hp_); replace HB := Aside0.mk ((by rw [hw]; exact below_set (HB.out) GB23.out : Below w.heap.size w w25)); clear hg hw hp_))
            (try simp only [← hl6_2])
            go_roundg k2
            case measure => have := HJ2.out; have := HK2.out; omega
            case rel => exact ⟨(y104), (wrap64 (x29_2 + 1)), q8z4, H', ⟨(by have := HJ2.out; have := HK2.out; omega)⟩, ⟨(by (try simp only [hl6_2]); (with_reducible repeat (first | apply Kd.R_alloc | apply Kd.R_drewN | apply Kd.R_drew)); exact HO_6.out)⟩, ⟨qpag⟩⟩
           ·rw [if_neg c22] at H
            exact absurd H q6hr
          ·rw [if_neg c21] at H
           exact absurd H q6hr
         ·rw [if_neg c18] at H
          exact absurd H q6hr
        ·rw [if_neg c16] at H
         have c16b0 : decide (x29_2 < (y101.length : Int)) = false := decide_eq_false c16
         first | (have c16b0l : decide (x29_2 < ((x6_2 : List Int).length : Int)) = false := by rw [← hl6_2]; exact c16b0) | skip
         clear c16
         simp only [Option.some.injEq, Prod.mk.injEq] at H
         obtain ⟨rfl, rfl⟩ := H
         have hcv26 := own_string (P := Tryz.prog) Tryz.underlying62 Tryz.underlying5 Tryz.underlying9 (Kd.own_of_R HO_6.out)
         exact z2_0
     ·rw [if_neg c12] at H
      exact absurd H q6hr
    ·rw [if_neg c11] at H
     exact absurd H q6hr
end Go.Proofs.YtgdjekigkimhnaaGreatDoor.P
