/- What the printed octets.Get (where the bytes are there) and the reference's Num compute. -/
import Derived.Test.YtbfjlhjfpmgplaaDoorPx13
import Derived.Test.YtbfjlhjfpmgplaaDoorPx14
import Derived.Test.YtbfjlhjfpmgplaaDoorPx20
import Derived.Test.YtbfjlhjfpmgplaaDoorLib
namespace Go.Proofs.YtbfjlhjfpmgplaaDoor.P
open Go Go.RowKit Go.Proofs.YtbfjlhjfpmgplaaDoorW.PrintWords Go.Proofs.YtbfjlhjfpmgplaaDoorW.PrintLast Go.Proofs.YtbfjlhjfpmgplaaDoorW.PrintMore Go.Proofs.YtbfjlhjfpmgplaaDoor.L

theorem wraps_u64 (n : Int) (h₀ : 0 ≤ n) (h₁ : n < 2 ^ 64) : IntKind.u64.wrap n = n := u64w h₀ (by
  have : (2 : Int) ^ 64 = 18446744073709551616 := by decide
  omega)
theorem or_byte {v x : Nat} (hv : v * 256 < 18446744073709551616) (hx : x < 256) : Go.bits .or .u64 (IntKind.u64.wrap ((v : Int) * 256)) (IntKind.u64.wrap (x : Int)) = ((v * 256 + x : Nat) : Int) := by
  rw [u64w (by omega) (by omega), u64w (by omega) (by omega)]
  have e : (2 : Int) ^ 64 = 18446744073709551616 := by decide
  have e8 : (2 : Int) ^ 8 = 256 := by decide
  rw [Go.bits_join .u64 64 (by decide) wraps_u64 8 ((v : Int) * 256) (x : Int) (by omega) (by rw [e8]; omega) (by rw [e]; omega) (by omega) (by rw [e8]; omega) (by rw [e]; omega)]
  omega
theorem num_take_lt {l : List Nat} (h : Byt l) {m : Nat} (hm : m ≤ 7) : num (l.take m) * 256 < 18446744073709551616 := by
  have h1 := num_lt (h.take m)
  have h2 : (l.take m).length ≤ 7 := by rw [List.length_take]; omega
  have h3 : 256 ^ (l.take m).length ≤ 256 ^ 7 := Nat.pow_le_pow_right (by decide) h2
  have h4 : (256 : Nat) ^ 7 = 72057594037927936 := by decide
  omega
theorem take_succ_getD {l : List Nat} {i : Nat} (h : i < l.length) : l.take (i + 1) = l.take i ++ [l.getD i 0] := by
  rw [List.take_succ_eq_append_getElem h]
  simp [List.getD_eq_getElem?_getD, List.getElem?_eq_getElem h]
theorem getD_byte {l : List Nat} (h : Byt l) (i : Nat) : l.getD i 0 < 256 := by
  rw [List.getD_eq_getElem?_getD]
  by_cases hi : i < l.length
  · rw [List.getElem?_eq_getElem hi]
    exact h _ (List.getElem_mem hi)
  · rw [List.getElem?_eq_none (by omega)]
    decide
theorem get_l0_ev (t : ByteArray) (n : Nat) (hn : n ≤ 8) (ht : t.size = n) (d : Nat) : ∀ i : Nat, i ≤ n → n - i = d →
    Ev (fun k => octets_Get.l0 k t ((num ((nb t).take i) : Nat) : Int) (n : Int) (i : Int)) (((num (nb t) : Nat) : Int), 0) := by
  have hl := nb_len t
  have hby := nb_byt t
  induction d with
  | zero =>
    intro i hi hd
    refine ⟨1, fun k hk => ?_⟩
    obtain ⟨m, rfl⟩ : ∃ m, k = m + 1 := ⟨k - 1, by omega⟩
    simp only [octets_Get.l0]
    rw [if_neg (by omega), List.take_of_length_le (by omega)]
  | succ d ih =>
    intro i hi hd
    have hlt : i < (nb t).length := by omega
    have hb := getD_byte hby i
    have hv := num_take_lt (m := i) hby (by omega)
    refine Ev.step (f := fun k => octets_Get.l0 k t ((num ((nb t).take (i + 1)) : Nat) : Int) (n : Int) ((i + 1 : Nat) : Int)) (fun k => ?_) (ih (i + 1) (by omega) (by omega))
    simp only [octets_Get.l0]
    rw [if_pos (by omega), if_pos (by omega), if_pos (by omega), bt_nb, Int.toNat_natCast, or_byte hv hb, w64 (x := (i : Int) + 1) (by omega) (by omega), take_succ_getD hlt, num_snoc]
    rfl
theorem num_l0_ev (t : ByteArray) (ht : t.size ≤ 8) (d : Nat) : ∀ i : Nat, i ≤ t.size → t.size - i = d →
    Ev (fun k => gangwayref01_Num.l0 k t ((num ((nb t).take i) : Nat) : Int) (i : Int)) ((num (nb t) : Nat) : Int) := by
  have hl := nb_len t
  have hby := nb_byt t
  induction d with
  | zero =>
    intro i hi hd
    refine ⟨1, fun k hk => ?_⟩
    obtain ⟨m, rfl⟩ : ∃ m, k = m + 1 := ⟨k - 1, by omega⟩
    simp only [gangwayref01_Num.l0]
    rw [if_neg (by omega), List.take_of_length_le (by omega)]
  | succ d ih =>
    intro i hi hd
    have hlt : i < (nb t).length := by omega
    have hb := getD_byte hby i
    have hv := num_take_lt (m := i) hby (by omega)
    refine Ev.step (f := fun k => gangwayref01_Num.l0 k t ((num ((nb t).take (i + 1)) : Nat) : Int) ((i + 1 : Nat) : Int)) (fun k => ?_) (ih (i + 1) (by omega) (by omega))
    simp only [gangwayref01_Num.l0]
    rw [if_pos (by omega), if_pos (by omega), bt_nb, Int.toNat_natCast, u64w (x := ((num ((nb t).take i) : Nat) : Int) * 256) (by omega) (by omega), u64w (x := (((nb t).getD i 0 : Nat) : Int)) (by omega) (by omega), u64w (by omega) (by omega), w64 (x := (i : Int) + 1) (by omega) (by omega), take_succ_getD hlt, num_snoc]
    congr 1
theorem num_ev {t : ByteArray} (ht : t.size ≤ 8) : Ev (fun k => gangwayref01_Num.f k t) ((num (nb t) : Nat) : Int) := by
  have := num_l0_ev t ht t.size 0 (Nat.zero_le _) rfl
  show Ev (fun k => gangwayref01_Num.l0 k t 0 0) _
  simpa [num] using this
/-- The number at a place of bytes. -/
def numAt (l : List Nat) (i n : Nat) : Nat := num ((l.drop i).take n)
theorem numAt_lt {l : List Nat} (h : Byt l) (i n : Nat) : numAt l i n < 256 ^ n := by
  have h1 := num_lt ((h.drop i).take n)
  have h2 : ((l.drop i).take n).length ≤ n := by rw [List.length_take]; omega
  have h3 : 256 ^ ((l.drop i).take n).length ≤ 256 ^ n := Nat.pow_le_pow_right (by decide) h2
  exact Nat.lt_of_lt_of_le h1 h3
theorem get_ev {s : ByteArray} {i n : Nat} (h1 : 1 ≤ n) (h8 : n ≤ 8) (hi : i + n ≤ s.size) (hs : s.size ≤ 1099511627776) : Ev (fun k => octets_Get.f k s (i : Int) (n : Int)) (((numAt (nb s) i n : Nat) : Int), 0) := by
  have hp : octets_part.f s (i : Int) (n : Int) = some (s.extract i (i + n), none) := by
    unfold octets_part.f
    rw [if_pos (by omega), if_pos (by omega), if_pos (by omega), if_pos hs]
    rfl
  have hn : nb (s.extract i (i + n)) = ((nb s).drop i).take n := by
    rw [nb_extract, List.drop_take, Nat.add_sub_cancel_left]
  unfold octets_Get.f
  refine ev_neg (by omega) ?_
  rw [decide_eq_false (by omega)]
  refine ev_succ ?_
  simp only [octets_Get.j0, Bool.false_eq_true, if_false]
  rw [hp]
  refine ev_some (ev_pos rfl ?_)
  have := get_l0_ev (s.extract i (i + n)) n h8 (by rw [ByteArray.size_extract]; omega) n 0 (Nat.zero_le _) rfl
  rw [hn] at this
  exact this
end Go.Proofs.YtbfjlhjfpmgplaaDoor.P
