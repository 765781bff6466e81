-- Written by wip/hprint.py (this session's program) through the kit's print program; hand contracts are marked 'by hand'.
import Derived.Test.YtclffgkefbdcpaaDoorPx0
namespace Go.Proofs.YtclffgkefbdcpaaDoor.P
open Go.RowKit Go.Proofs.YtclffgkefbdcpaaDoorW.PrintWords Go.Proofs.YtclffgkefbdcpaaDoorW.PrintLast Go.Proofs.YtclffgkefbdcpaaDoorW.PrintMore
attribute [local go_sem] max2_int min2_int max_two min_two max_three min_three max_four min_four   -- for this text's walks alone
set_option linter.unusedVariables false
set_option linter.unusedSimpArgs false

/-! ### octets_Unhex: function 12, by hand -/
-- CALLS strings.IndexByte
-- IMPORT Derived.Test.YtclffgkefbdcpaaDoorShelf
-- IMPORT Derived.Deep.QuietTactic
-- IMPORT Derived.BigQuiet
def digits_ : List UInt8 := [48, 49, 50, 51, 52, 53, 54, 55, 56, 57, 97, 98, 99, 100, 101, 102]
/-- Two digits' byte, behind bytes. -/
def unhexA : List UInt8 → List Int → Option (List Int)
  | a :: b :: r, l => if Lib.indexByte digits_ a < 0 then none else if Lib.indexByte digits_ b < 0 then none else unhexA r (l ++ [Go.bits .or .i64 (wrap64 (Lib.indexByte digits_ a * 16)) (Lib.indexByte digits_ b) % 256])
  | _, l => some l
theorem ib_calls (c : UInt8) (i : Int) (h : Lib.indexByte digits_ c = i) (w : World) :
    Calls Tryd.prog 19 #[.string ⟨#[48, 49, 50, 51, 52, 53, 54, 55, 56, 57, 97, 98, 99, 100, 101, 102]⟩, .int .u8 (c.toNat : Int)] w fun e w' => e = .returned (.int .i64 i) ∧ w' = w := by
  refine (Tryd.strings_IndexByte _ _ w).mono ?_
  rintro e w' ⟨rfl, rfl⟩
  refine ⟨?_, rfl⟩
  rw [← h]
  have e1 : (c.toNat : Int).toNat.toUInt8 = c := by
    rw [Int.toNat_natCast]
    exact UInt8.ofNat_toNat
  rw [e1]
  rfl
theorem drop_pair {l : List UInt8} {i : Nat} (h : i + 1 < l.length) : l.drop i = l[i] :: l[i + 1] :: l.drop (i + 2) := by
  rw [List.drop_eq_getElem_cons (by omega), List.drop_eq_getElem_cons h]
def unhexR : Option (List Int) → ByteArray × Int
  | some l => (strOfNums l, 0)
  | none => (⟨#[]⟩, 11)
def octets_Unhex.f (a0 : ByteArray) : Option (ByteArray × Int) := if a0.size ≤ 1099511627776 then (if a0.size % 2 = 0 then some (unhexR (unhexA a0.data.toList [])) else some (⟨#[]⟩, 11)) else none
set_option maxHeartbeats 4000000 in
set_option maxRecDepth 100000 in
theorem octets_Unhex.calls (a0 : ByteArray) (r1 : ByteArray) (r2 : Int) (w : World) (h : octets_Unhex.f a0 = some (r1, r2)) :
    Calls Tryd.prog 12 #[.string a0] w fun e w' => e = .returned (.tuple #[.string r1, .int .i64 r2]) ∧ Below w.heap.size w w' := by
  unfold octets_Unhex.f at h
  by_cases hs : a0.size ≤ 1099511627776
  · rw [if_pos hs] at h
    by_cases he : a0.size % 2 = 0
    · rw [if_pos he] at h
      have HR := Aside0.mk (Option.some.inj h)
      clear h
      obtain ⟨N, hN⟩ : ∃ N, a0.size = 2 * N := ⟨a0.size / 2, by omega⟩
      obtain ⟨i0, hi, hz0, hz1, hz2⟩ := info_parts Tryd.Builder_Extra_169.infoByte
      obtain ⟨wm, hrun, hown, hgrow⟩ := run_make_own (P := Tryd.prog) w w.heap.size 38 5 i0 (.int .u8 0) 1 Tryd.underlying38 hi hz0 hz1 .i64 .i64 N (by rw [hz2]; omega) (by unfold maxLen; omega) (Nat.le_refl _)
      have HN := Aside0.mk hN
      have HO := Aside0.mk hown
      have HG := Aside0.mk (show Below w.heap.size w wm from (Below.refl _ _).grown hgrow (Nat.le_refl _) (fun k hk => by cases hk))
      have m2 : ((a0.size : Int) % 2 != 0) = false := bne_eq_false_iff_eq.mpr (by omega)
      have d2 : (a0.size : Int) / 2 = (N : Int) := by omega
      rw [← d2] at hrun
      clear hN hown hgrow he d2
      go_enter Tryd.func12, Tryd.ntmps12
      go_wp2
      go_loopg [4, 5] N (fun kq v4 v5 w' => ∃ (i : Nat) (l : List Int), v5 = .int .i64 (i : Int) ∧ Aside0 (i + 2 * kq = a0.size) ∧ Aside0 (unhexR (unhexA (a0.data.toList.drop i) l) = (r1, r2)) ∧ Aside0 (l.length + kq = N) ∧ Aside0 (w'.ownsRow w.heap.size 5 1 v4 l.length (nums .u8 l)) ∧ Aside0 (Below w.heap.size w w'))
      case atStart => exact ⟨0, [], rfl, ⟨by have := HN.out; omega⟩, HR, ⟨by simp⟩, HO, HG⟩
      case round =>
        clear hrun HO HG HR
        obtain ⟨i, l, rfl, HI, HU, HL, HO, HB⟩ := hrel
        by_cases hi2 : i < a0.size
        · have hi3 : i + 1 < a0.size := by have := HI.out; omega
          have b10 : decide ((i : Int) < (a0.size : Int)) = true := decide_eq_true (by omega)
          have b11 : decide (i < a0.size) = true := decide_eq_true hi2
          have p1 := eq_true (show (0 : Int) ≤ (i : Int) by omega)
          have p2 := eq_true (show (i : Int) < (a0.size : Int) by omega)
          have p3 := eq_true (show (0 : Int) ≤ (i : Int) + 1 by omega)
          have p4 := eq_true (show (i : Int) + 1 < (a0.size : Int) by omega)
          have e1 : IntKind.i64.wrap ((i : Int) + 1) = (i : Int) + 1 := by rw [IntKind.wrap_i64]; omega
          have e2 : ((i : Int) + 1).toNat = i + 1 := by omega
          obtain ⟨m, rfl⟩ : ∃ m, gk = m + 1 := ⟨gk - 1, by have := HI.out; omega⟩
          have hu := HU.out
          rw [drop_pair (by rw [Array.length_toList]; exact hi3)] at hu
          simp only [unhexA] at hu
          have g1 : a0.data.toList[i]'(by rw [Array.length_toList]; exact hi2) = a0[i] := rfl
          have g2 : a0.data.toList[i + 1]'(by rw [Array.length_toList]; exact hi3) = a0[i + 1] := rfl
          rw [g1, g2] at hu
          obtain ⟨ia, hia⟩ : ∃ ia, Lib.indexByte digits_ a0[i] = ia := ⟨_, rfl⟩
          obtain ⟨ib, hib⟩ : ∃ ib, Lib.indexByte digits_ a0[i + 1] = ib := ⟨_, rfl⟩
          rw [hia, hib] at hu
          have HIA := Aside0.mk hia
          have HIB := Aside0.mk hib
          clear hia hib g1 g2 HU
          by_cases ha : ia < 0
          · rw [if_pos ha] at hu
            obtain ⟨rfl, rfl⟩ := Prod.mk.inj hu
            clear hu
            have ba : decide (ia < 0) = true := decide_eq_true ha
            go_wp2
            go_quiet ((first | (go_at_call 19; exact Calls.quiet_of_same (ib_calls _ ia HIA.out _)) | (go_at_call 19; exact Calls.quiet_of_same (ib_calls _ ib HIB.out _))))
            go_wp2
            go_ret2
            exact ⟨rfl, pw_below_drewN HB.out _⟩
          · rw [if_neg ha] at hu
            have ba : decide (ia < 0) = false := decide_eq_false ha
            by_cases hb : ib < 0
            · rw [if_pos hb] at hu
              obtain ⟨rfl, rfl⟩ := Prod.mk.inj hu
              clear hu
              have bb : decide (ib < 0) = true := decide_eq_true hb
              clear ha
              go_wp2
              go_quiet ((first | (go_at_call 19; exact Calls.quiet_of_same (ib_calls _ ia HIA.out _)) | (go_at_call 19; exact Calls.quiet_of_same (ib_calls _ ib HIB.out _))))
              go_wp2
              go_ret2
              exact ⟨rfl, pw_below_drewN HB.out _⟩
            · rw [if_neg hb] at hu
              have bb : decide (ib < 0) = false := decide_eq_false hb
              clear ha hb
              have HU := Aside0.mk hu
              clear hu
              go_wp2
              go_quiet ((first | (go_at_call 19; exact Calls.quiet_of_same (ib_calls _ ia HIA.out _)) | (go_at_call 19; exact Calls.quiet_of_same (ib_calls _ ib HIB.out _))))
              have HL9 := Aside0.mk (show l.length + 1 ≤ 1099511627776 by have := HL.out; have := HN.out; omega)
              have HZ := Aside0.mk HB.out.size
              go_wp2_with (at_builtin; refine wpList_append_own _ rfl _ _ 38 rfl w.heap.size 5 i0 (.int .u8 0) 1 1 Tryd.underlying38 hi hz0 hz1 hz2 rfl (by decide) _ _ _ rfl (own_alloc (pw_own_drewN HO.out _) _) ⟨wr.heap.size, 0, none⟩ 1 1 [.int .u8 (Go.bits .or .i64 (wrap64 (ia * 16)) ib % 256)] rfl rfl ?c1 ?c2 ?c3 ?c4 ?c5 ?_)
              case c1 =>
                intro j u hj
                match j, hj with
                | 0, hj => simp at hj; subst hj; simp only [Addr.add, Nat.add_zero]; exact (blk_cell (blk_new (wr.drewN nq) _) 0).trans rfl
              case c2 => intro u hu; simp at hu; subst hu; rfl
              case c3 => have := HL9.out; unfold maxLen; omega
              case c4 => have := HL9.out; omega
              case c5 => have := HZ.out; simp; omega
              intro v' w1 hown' hgrow _
              have HO1 := Aside0.mk hown'
              have HB1 := Aside0.mk ((below_alloc (pw_below_drewN HB.out nq) (.cells #[.int .u8 (Go.bits .or .i64 (wrap64 (ia * 16)) ib % 256)] 5)).grown hgrow (by have := HZ.out; simp; omega) (fun k hk => (HO.out.lt k hk).1))
              clear hown' hgrow
              go_wp2
              go_roundg m
              case measure => omega
              case rel =>
                refine ⟨i + 2, l ++ [Go.bits .or .i64 (wrap64 (ia * 16)) ib % 256], by simp, ⟨by have := HI.out; omega⟩, HU, ⟨by have := HL.out; rw [List.length_append, List.length_singleton]; omega⟩, ⟨?_⟩, HB1⟩
                have := HO1.out
                rw [List.length_append, List.length_singleton]
                unfold nums at this ⊢
                rw [List.map_append]
                exact this
        · have hI : i = a0.size := by have := HI.out; omega
          have b10 : decide ((i : Int) < (a0.size : Int)) = false := decide_eq_false (by omega)
          have b11 : decide (i < a0.size) = false := decide_eq_false hi2
          have hu := HU.out
          rw [List.drop_of_length_le (by rw [Array.length_toList]; exact Nat.not_lt.1 hi2)] at hu
          simp only [unhexA, unhexR] at hu
          obtain ⟨rfl, rfl⟩ := Prod.mk.inj hu
          clear hu HU hI hi2
          have hcv := own_string (P := Tryd.prog) Tryd.underlying38 Tryd.underlying5 Tryd.underlying9 HO.out
          go_wp2
          go_ret2
          exact ⟨rfl, HB.out⟩
    · rw [if_neg he] at h
      obtain ⟨rfl, rfl⟩ := Prod.mk.inj (Option.some.inj h)
      clear h
      have m2 : ((a0.size : Int) % 2 != 0) = true := bne_iff_ne.mpr (by omega)
      clear he
      go_enter Tryd.func12, Tryd.ntmps12
      go_wp2
      go_ret2
      exact ⟨rfl, Below.refl _ _⟩
  · rw [if_neg hs] at h
    cases h

end Go.Proofs.YtclffgkefbdcpaaDoor.P
