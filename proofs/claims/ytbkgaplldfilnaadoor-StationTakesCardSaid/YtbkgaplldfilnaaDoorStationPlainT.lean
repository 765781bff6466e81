/- The plain laws of the seat and what its printed functions compute, in one text. -/
import Derived.Test.YtbkgaplldfilnaaDoorWMore
import Derived.Laws.BitsLemmas
import Derived.Test.YtbkgaplldfilnaaDoorPx4
import Derived.Test.YtbkgaplldfilnaaDoorPx35
import Derived.Test.YtbkgaplldfilnaaDoorPx0
import Derived.Test.YtbkgaplldfilnaaDoorPx32
import Derived.Test.YtbkgaplldfilnaaDoorPx13
import Derived.Test.YtbkgaplldfilnaaDoorPx8
import Derived.Test.YtbkgaplldfilnaaDoorPx10
import Derived.Test.YtbkgaplldfilnaaDoorPx30
import Derived.Test.YtbkgaplldfilnaaDoorPx24
import Derived.Test.YtbkgaplldfilnaaDoorPx12
import Derived.Test.YtbkgaplldfilnaaDoorPx34
import Derived.Test.YtbkgaplldfilnaaDoorPx17
import Derived.Test.YtbkgaplldfilnaaDoorPx31
import Derived.Test.YtbkgaplldfilnaaDoorPx14
import Derived.Test.YtbkgaplldfilnaaDoorPx19
import Derived.Test.YtbkgaplldfilnaaDoorPx20
import Derived.Test.YtbkgaplldfilnaaDoorPx21
import Derived.Test.YtbkgaplldfilnaaDoorPx36
namespace Go.Proofs.YtbkgaplldfilnaaDoor.L
open Go Go.RowKit Go.Proofs.YtbkgaplldfilnaaDoorW.PrintWords Go.Proofs.YtbkgaplldfilnaaDoorW.PrintLast Go.Proofs.YtbkgaplldfilnaaDoorW.PrintMore

def nb (s : ByteArray) : List Nat := s.data.toList.map UInt8.toNat
def bs (l : List Nat) : ByteArray := ⟨(l.map UInt8.ofNat).toArray⟩
def Byt (l : List Nat) : Prop := ∀ x ∈ l, x < 256

theorem nb_len (s : ByteArray) : (nb s).length = s.size := by
  unfold nb
  rw [List.length_map, Array.length_toList]
  rfl
theorem bs_size (l : List Nat) : (bs l).size = l.length := by
  unfold bs
  simp [ByteArray.size]
theorem nb_byt (s : ByteArray) : Byt (nb s) := by
  intro x hx
  obtain ⟨b, _, rfl⟩ := List.mem_map.1 hx
  exact b.toNat_lt
theorem nb_bs {l : List Nat} (h : Byt l) : nb (bs l) = l := by
  unfold nb bs
  simp only [List.map_map]
  have : ∀ x ∈ l, (UInt8.toNat ∘ UInt8.ofNat) x = x := fun x hx => by
    have := h x hx
    simp [Nat.mod_eq_of_lt this]
  rw [List.map_congr_left this]
  simp
theorem bs_nb (s : ByteArray) : bs (nb s) = s := by
  unfold nb bs
  rw [List.map_map]
  have : (UInt8.ofNat ∘ UInt8.toNat) = id := by
    funext x
    simp
  rw [this]
  simp
theorem nb_inj {s t : ByteArray} (h : nb s = nb t) : s = t := by rw [← bs_nb s, h, bs_nb]
theorem nb_append (s t : ByteArray) : nb (s ++ t) = nb s ++ nb t := by
  unfold nb
  rw [ByteArray.data_append, Array.toList_append, List.map_append]
theorem bs_append (l m : List Nat) : bs (l ++ m) = bs l ++ bs m := by
  unfold bs
  apply ByteArray.ext
  rw [ByteArray.data_append]
  simp
theorem nb_extract (s : ByteArray) (i j : Nat) : nb (s.extract i j) = ((nb s).take j).drop i := by
  unfold nb
  rw [ByteArray.data_extract, Array.toList_extract, List.extract_eq_take_drop]
  rw [← List.map_take, ← List.map_drop]
  congr 1
  rw [List.drop_take]
theorem Byt.nil : Byt [] := fun _ h => by cases h
theorem Byt.cons {x : Nat} {l : List Nat} (hx : x < 256) (h : Byt l) : Byt (x :: l) := fun y hy => by
  rcases List.mem_cons.1 hy with rfl | hy
  · exact hx
  · exact h y hy
theorem Byt.append {l m : List Nat} (h : Byt l) (k : Byt m) : Byt (l ++ m) := fun x hx => by
  rcases List.mem_append.1 hx with hx | hx
  · exact h x hx
  · exact k x hx
theorem Byt.take {l : List Nat} (h : Byt l) (n : Nat) : Byt (l.take n) := fun x hx => h x (List.mem_of_mem_take hx)
theorem Byt.drop {l : List Nat} (h : Byt l) (n : Nat) : Byt (l.drop n) := fun x hx => h x (List.mem_of_mem_drop hx)
theorem bt_nb (s : ByteArray) (i : Int) : bt s i = ((nb s).getD i.toNat 0 : Nat) := by
  unfold bt nb
  by_cases h : i.toNat < s.size
  · rw [dif_pos h]
    rw [List.getD_eq_getElem?_getD, List.getElem?_map]
    have h2 : i.toNat < s.data.toList.length := by rw [Array.length_toList]; exact h
    rw [List.getElem?_eq_getElem h2]
    simp
    rfl
  · rw [dif_neg h]
    rw [List.getD_eq_getElem?_getD, List.getElem?_eq_none (by rw [List.length_map, Array.length_toList]; exact Nat.not_lt.1 h)]
    rfl
theorem nb_nums (l : List Int) (h : ∀ x ∈ l, 0 ≤ x ∧ x < 256) : nb (strOfNums l) = l.map Int.toNat := by
  unfold nb strOfNums
  simp only [List.map_map]
  apply List.map_congr_left
  intro x hx
  have := h x hx
  simp only [Function.comp]
  rw [UInt8.toNat_ofNat']
  exact Nat.mod_eq_of_lt (by omega)
theorem nums_bs (l : List Int) (h : ∀ x ∈ l, 0 ≤ x ∧ x < 256) : strOfNums l = bs (l.map Int.toNat) := nb_inj (by
  rw [nb_nums l h, nb_bs]
  intro x hx
  obtain ⟨y, hy, rfl⟩ := List.mem_map.1 hx
  have := h y hy
  omega)
theorem w64 {x : Int} (h0 : -9223372036854775808 ≤ x) (h1 : x ≤ 9223372036854775807) : wrap64 x = x := by
  unfold wrap64
  omega
theorem u64w {x : Int} (h0 : 0 ≤ x) (h1 : x ≤ 18446744073709551615) : IntKind.u64.wrap x = x := by
  have : IntKind.u64.wrap x = x % 18446744073709551616 := by simp [IntKind.wrap, IntKind.bits, IntKind.signed]
  rw [this]
  omega
theorem mask_nat (x : Int) (i : Nat) (hi : i ≤ 62) : Go.bits .and .i64 x (((2 ^ i - 1 : Nat) : Int)) = x % ((2 ^ i : Nat) : Int) := by
  have e0 : Go.bits .and .i64 x (((2 ^ i - 1 : Nat) : Int)) = IntKind.i64.wrap ((BitVec.ofInt 64 x &&& BitVec.ofInt 64 (((2 ^ i - 1 : Nat) : Int))).toNat : Int) := rfl
  rw [e0]
  have hp : 0 < 2 ^ i := Nat.two_pow_pos i
  have hle : 2 ^ i ≤ 2 ^ 62 := Nat.pow_le_pow_right (by decide) hi
  have hb : (BitVec.ofInt 64 ((2 ^ i - 1 : Nat) : Int)).toNat = 2 ^ i - 1 := by
    rw [BitVec.ofInt_natCast, BitVec.toNat_ofNat]
    exact Nat.mod_eq_of_lt (by omega)
  rw [BitVec.toNat_and, hb, Nat.and_two_pow_sub_one_eq_mod, BitVec.toNat_ofInt]
  have hm : 0 ≤ x % ((2 ^ 64 : Nat) : Int) := Int.emod_nonneg _ (by decide)
  have e : (((x % ((2 ^ 64 : Nat) : Int)).toNat % 2 ^ i : Nat) : Int) = x % ((2 ^ i : Nat) : Int) := by
    rw [Int.natCast_emod, Int.toNat_of_nonneg hm]
    have hd : ((2 ^ i : Nat) : Int) ∣ ((2 ^ 64 : Nat) : Int) := Int.natCast_dvd_natCast.2 (Nat.pow_dvd_pow 2 (by omega))
    exact Int.emod_emod_of_dvd x hd
  rw [e]
  have h1 : 0 ≤ x % ((2 ^ i : Nat) : Int) := Int.emod_nonneg _ (by omega)
  have h2 : x % ((2 ^ i : Nat) : Int) < ((2 ^ i : Nat) : Int) := Int.emod_lt_of_pos _ (by omega)
  rw [IntKind.wrap_i64]
  have h3 : ((2 ^ i : Nat) : Int) ≤ ((2 ^ 62 : Nat) : Int) := Int.ofNat_le.2 hle
  have h4 : ((2 ^ 62 : Nat) : Int) = 4611686018427387904 := by decide
  omega
theorem mask16 (x : Int) : Go.bits .and .i64 x 65535 = x % 65536 := mask_nat x 16 (by decide)
def be : Nat → Nat → List Nat
  | 0, _ => []
  | n + 1, v => be n (v / 256) ++ [v % 256]
def num (l : List Nat) : Nat := l.foldl (fun v x => v * 256 + x) 0
theorem be_len (n v : Nat) : (be n v).length = n := by
  induction n generalizing v with
  | zero => rfl
  | succ n ih => simp [be, ih]
theorem be_byt (n v : Nat) : Byt (be n v) := by
  induction n generalizing v with
  | zero => exact Byt.nil
  | succ n ih => exact (ih _).append (Byt.cons (Nat.mod_lt _ (by decide)) Byt.nil)
theorem be_top (n v : Nat) : be (n + 1) v = (v / 256 ^ n % 256) :: be n v := by
  induction n generalizing v with
  | zero => simp [be]
  | succ n ih =>
    show be (n + 1) (v / 256) ++ [v % 256] = _
    rw [ih (v / 256), Nat.div_div_eq_div_mul, ← Nat.pow_succ']
    rfl
theorem num_snoc (l : List Nat) (x : Nat) : num (l ++ [x]) = num l * 256 + x := by simp [num, List.foldl_append]
theorem num_be (n v : Nat) : num (be n v) = v % 256 ^ n := by
  induction n generalizing v with
  | zero => simp [be, num, Nat.mod_one]
  | succ n ih =>
    rw [be, num_snoc, ih]
    have h := Nat.div_add_mod v 256
    have h2 := Nat.mod_mul (x := v) (a := 256) (b := 256 ^ n)
    rw [← Nat.pow_succ'] at h2
    rw [h2]
    omega
theorem num_lt {l : List Nat} (h : Byt l) : num l < 256 ^ l.length := by
  suffices ∀ (m : List Nat) (_ : Byt m) (a n : Nat), a < 256 ^ n → m.foldl (fun v x => v * 256 + x) a < 256 ^ (n + m.length) by
    simpa [num] using this l h 0 0 (by decide)
  intro m
  induction m with
  | nil => intro _ a n ha; simpa using ha
  | cons x r ih =>
    intro hm a n ha
    have hx : x < 256 := hm x (List.mem_cons_self)
    have := ih (fun y hy => hm y (List.mem_cons_of_mem _ hy)) (a * 256 + x) (n + 1) (by rw [Nat.pow_succ]; omega)
    simp only [List.foldl_cons, List.length_cons]
    rw [show n + (r.length + 1) = n + 1 + r.length by omega]
    exact this
theorem ev_succ {α : Type} {g : Nat → Option α} {r : α} (h : Ev (fun k => g (k + 1)) r) : Ev g r := Ev.step (fun _ => rfl) h
theorem ev_pos {α : Type} {c : Prop} [Decidable c] {f g : Nat → Option α} {r : α} (hc : c) (h : Ev f r) : Ev (fun k => if c then f k else g k) r := by
  simp only [if_pos hc]
  exact h
theorem ev_neg {α : Type} {c : Prop} [Decidable c] {f g : Nat → Option α} {r : α} (hc : ¬ c) (h : Ev g r) : Ev (fun k => if c then f k else g k) r := by
  simp only [if_neg hc]
  exact h
theorem ev_some {α β : Type} {f : Nat → α → Option β} {a : α} {r : β} (k : Ev (fun n => f n a) r) : Ev (fun n => (some a).bind (f n)) r := k
theorem ev_eq {α : Type} {g : Nat → Option α} {r s : α} (h : Ev g r) (e : r = s) : Ev g s := e ▸ h
theorem ev_now {α : Type} {r s : α} (e : r = s) : Ev (fun _ => some r) s := e ▸ Ev.now r
theorem ev_known {α : Type} {o : Option α} {r : α} (e : o = some r) : Ev (fun _ => o) r := e ▸ Ev.now r
theorem mn_le (a b : Int) : mn a b ≤ a ∧ mn a b ≤ b := by unfold mn; omega
theorem mn_nonneg {a b : Int} (ha : 0 ≤ a) (hb : 0 ≤ b) : 0 ≤ mn a b := by unfold mn; omega
theorem cut_size (s : ByteArray) (n : Nat) : (s.extract 0 (mn (s.size : Int) (n : Int)).toNat).size ≤ n := by
  rw [ByteArray.size_extract]
  have := mn_le (s.size : Int) (n : Int)
  omega
theorem size_nat (s : ByteArray) : (0 : Int) ≤ (s.size : Int) := Int.natCast_nonneg _
end Go.Proofs.YtbkgaplldfilnaaDoor.L
namespace Go.Proofs.YtbkgaplldfilnaaDoor.L
open Go Go.RowKit

theorem wraps_i64 (n : Int) (h₀ : 0 ≤ n) (h₁ : n < 2 ^ 62) : IntKind.i64.wrap n = n := by
  have e : (2 : Int) ^ 62 = 4611686018427387904 := by decide
  rw [IntKind.wrap_i64]
  omega
theorem and_bit (m i : Nat) : m &&& 2 ^ i = m / 2 ^ i % 2 * 2 ^ i := by
  apply Nat.eq_of_testBit_eq
  intro j
  rw [Nat.testBit_and, Nat.testBit_two_pow]
  have hp : 0 < 2 ^ i := Nat.two_pow_pos i
  by_cases hi : i = j
  · subst hi
    rw [decide_eq_true rfl, Bool.and_true, Nat.testBit_eq_decide_div_mod_eq, Nat.testBit_eq_decide_div_mod_eq, Nat.mul_div_cancel _ hp, Nat.mod_mod]
  · rw [decide_eq_false hi, Bool.and_false]
    have h2 : m / 2 ^ i % 2 = 0 ∨ m / 2 ^ i % 2 = 1 := by omega
    rcases h2 with h2 | h2
    · rw [h2, Nat.zero_mul, Nat.zero_testBit]
    · rw [h2, Nat.one_mul, Nat.testBit_two_pow, decide_eq_false hi]
theorem and_bit64 {m i : Nat} (hm : m < 65536) (hi : i ≤ 15) : Go.bits .and .i64 (m : Int) ((2 ^ i : Nat) : Int) = ((m / 2 ^ i % 2 * 2 ^ i : Nat) : Int) := by
  have e : (2 : Nat) ^ 62 = 4611686018427387904 := by decide
  have hle : 2 ^ i ≤ 2 ^ 15 := Nat.pow_le_pow_right (by decide) hi
  have e15 : (2 : Nat) ^ 15 = 32768 := by decide
  rw [(bits_nat .i64 62 (by decide) wraps_i64 m (2 ^ i) (by omega) (by omega)).1, and_bit]
theorem or_join64 {x y i : Nat} (hx : x % 2 ^ i = 0) (hx1 : x < 65536) (hy : y < 2 ^ i) (hi : i ≤ 15) : Go.bits .or .i64 (x : Int) (y : Int) = ((x + y : Nat) : Int) := by
  have e : (2 : Int) ^ 62 = 4611686018427387904 := by decide
  have hle : 2 ^ i ≤ 2 ^ 15 := Nat.pow_le_pow_right (by decide) hi
  have e15 : (2 : Nat) ^ 15 = 32768 := by decide
  have hxi : (x : Int) % (2 : Int) ^ i = 0 := by
    have : (((x % 2 ^ i : Nat)) : Int) = 0 := by rw [hx]; rfl
    rw [Int.natCast_emod] at this
    exact_mod_cast this
  have hyi : (y : Int) < (2 : Int) ^ i := by exact_mod_cast hy
  rw [Go.bits_join .i64 62 (by decide) wraps_i64 i (x : Int) (y : Int) (by omega) hxi (by rw [e]; omega) (by omega) hyi (by rw [e]; omega)]
  omega
theorem or_comm64 {x y : Nat} (hx : x < 65536) (hy : y < 65536) : Go.bits .or .i64 (x : Int) (y : Int) = Go.bits .or .i64 (y : Int) (x : Int) := by
  have e : (2 : Nat) ^ 62 = 4611686018427387904 := by decide
  rw [(bits_nat .i64 62 (by decide) wraps_i64 x y (by omega) (by omega)).2, (bits_nat .i64 62 (by decide) wraps_i64 y x (by omega) (by omega)).2, Nat.or_comm]
end Go.Proofs.YtbkgaplldfilnaaDoor.L
namespace Go.Proofs.YtbkgaplldfilnaaDoor.P
open Go Go.RowKit Go.Proofs.YtbkgaplldfilnaaDoorW.PrintWords Go.Proofs.YtbkgaplldfilnaaDoorW.PrintLast Go.Proofs.YtbkgaplldfilnaaDoorW.PrintMore Go.Proofs.YtbkgaplldfilnaaDoor.L

theorem shr_nat (v i : Nat) (hi : i ≤ 8) : shr .u64 (v : Int) (8 * (i : Int)) = ((v / 256 ^ i : Nat) : Int) := by
  unfold shr
  have e : min (8 * (i : Int)).toNat (IntKind.bits .u64) = 8 * i := by
    have h : IntKind.bits .u64 = 64 := rfl
    rw [h]
    omega
  rw [e, show (2 : Int) ^ (8 * i) = ((2 ^ (8 * i) : Nat) : Int) by norm_cast, Nat.pow_mul]
  rw [Int.natCast_ediv]
theorem put_l0_ev (v n : Nat) (hn : n ≤ 8) (d : Nat) : ∀ i : Nat, i ≤ n → n - i = d →
    Ev (fun k => octets_Put.l0 k (v : Int) (n : Int) (List.replicate (n - i) (0 : Int) ++ (be i v).map (fun (x : Nat) => (x : Int))) (n : Int) (i : Int)) (bs (be n v), 0) := by
  induction d with
  | zero =>
    intro i hi hd
    have e : i = n := by omega
    subst e
    refine ⟨1, fun k hk => ?_⟩
    obtain ⟨m, rfl⟩ : ∃ m, k = m + 1 := ⟨k - 1, by omega⟩
    simp only [octets_Put.l0]
    rw [if_neg (by omega)]
    rw [Nat.sub_self, List.replicate_zero, List.nil_append]
    have hb := be_byt i v
    rw [nums_bs _ (fun x hx => by
      obtain ⟨y, hy, rfl⟩ := List.mem_map.1 hx
      have := hb y hy
      omega)]
    rw [List.map_map]
    have : (Int.toNat ∘ fun (x : Nat) => (x : Int)) = id := by
      funext x
      simp
    rw [this, List.map_id]
  | succ d ih =>
    intro i hi hd
    have hlen : (List.replicate (n - i) (0 : Int) ++ (be i v).map (fun (x : Nat) => (x : Int))).length = n := by
      rw [List.length_append, List.length_replicate, List.length_map, be_len]
      omega
    refine Ev.step (f := fun k => octets_Put.l0 k (v : Int) (n : Int) (List.replicate (n - (i + 1)) (0 : Int) ++ (be (i + 1) v).map (fun (x : Nat) => (x : Int))) (n : Int) ((i + 1 : Nat) : Int)) (fun k => ?_) (ih (i + 1) (by omega) (by omega))
    simp only [octets_Put.l0]
    rw [if_pos (by omega), w64 (x := 8 * (i : Int)) (by omega) (by omega), if_pos (by omega), w64 (x := (n : Int) - 1) (by omega) (by omega), w64 (x := (n : Int) - 1 - (i : Int)) (by omega) (by omega), if_pos (by omega), hlen, if_pos (by omega), w64 (x := (i : Int) + 1) (by omega) (by omega)]
    rw [shr_nat v i (by omega)]
    have ei : ((n : Int) - 1 - (i : Int)).toNat = n - (i + 1) := by omega
    have es : (List.replicate (n - i) (0 : Int) ++ (be i v).map (fun (x : Nat) => (x : Int))).set (n - (i + 1)) (((v / 256 ^ i : Nat) : Int) % 256) = List.replicate (n - (i + 1)) (0 : Int) ++ (be (i + 1) v).map (fun (x : Nat) => (x : Int)) := by
      rw [be_top]
      rw [show n - i = (n - (i + 1)) + 1 by omega, List.replicate_succ', List.append_assoc]
      rw [List.set_append_right _ _ (by simp)]
      simp
    rw [ei, es]
    rfl
theorem put_ev {v n : Nat} (h1 : 1 ≤ n) (h8 : n ≤ 8) (hv : v < 256 ^ n) : Ev (fun k => octets_Put.f k (v : Int) (n : Int)) (bs (be n v), 0) := by
  have hl : Ev (fun k => octets_Put.j0 k (v : Int) (n : Int) false) (bs (be n v), 0) := by
    refine Ev.step (f := fun k => octets_Put.l0 k (v : Int) (n : Int) (List.replicate n (0 : Int)) (n : Int) 0) (fun k => ?_) ?_
    · simp only [octets_Put.j0]
      rw [if_neg (by simp), if_pos (by omega), if_pos (by omega)]
      simp
    · have := put_l0_ev v n h8 n 0 (Nat.zero_le _) (by omega)
      simpa [be] using this
  unfold octets_Put.f
  by_cases h : n < 8
  · simp only [if_neg (show ¬ (n : Int) < 1 by omega), if_neg (show ¬ (n : Int) > 8 by omega), if_pos (show (n : Int) < 8 by omega), w64 (x := 8 * (n : Int)) (by omega) (by omega), if_pos (show 0 ≤ 8 * (n : Int) by omega), shr_nat v n h8, Nat.div_eq_of_lt hv]
    exact hl
  · simp only [if_neg (show ¬ (n : Int) < 1 by omega), if_neg (show ¬ (n : Int) > 8 by omega), if_neg (show ¬ (n : Int) < 8 by omega)]
    exact hl
theorem bytes_l0_ev (n : Nat) (hn : n ≤ 1000) (d : Nat) : ∀ (i v : Nat) (s : ByteArray), v < 18446744073709551616 → i ≤ n → n - i = d → s.size = i →
    Ev (fun k => gangwayref01_Bytes.l0 k (v : Int) (n : Int) s (i : Int)) (bs (be d v) ++ s) := by
  induction d with
  | zero =>
    intro i v s hv hi hd hs
    refine ⟨1, fun k hk => ?_⟩
    obtain ⟨m, rfl⟩ : ∃ m, k = m + 1 := ⟨k - 1, by omega⟩
    simp only [gangwayref01_Bytes.l0]
    rw [if_neg (by omega)]
    congr 1
  | succ d ih =>
    intro i v s hv hi hd hs
    have e1 : strOfNums [((v : Int).tmod 256) % 256] = bs [v % 256] := by
      have hx : (v : Int).tmod 256 % 256 = ((v % 256 : Nat) : Int) := by
        rw [Int.tmod_eq_emod_of_nonneg (by omega)]
        omega
      rw [hx, nums_bs _ (by simp; omega), List.map_cons, List.map_nil, Int.toNat_natCast]
    refine Ev.step (f := fun k => gangwayref01_Bytes.l0 k ((v / 256 : Nat) : Int) (n : Int) (bs [v % 256] ++ s) ((i + 1 : Nat) : Int)) (fun k => ?_) ?_
    · simp only [gangwayref01_Bytes.l0, Option.bind_some]
      rw [if_pos (by omega), e1, bs_size, List.length_singleton, hs, if_pos (by omega), w64 (x := (i : Int) + 1) (by omega) (by omega)]
      rw [Int.tdiv_eq_ediv_of_nonneg (by omega), u64w (by omega) (by omega)]
      rfl
    · have := ih (i + 1) (v / 256) (bs [v % 256] ++ s) (by omega) (by omega) (by omega) (by rw [ByteArray.size_append, bs_size, hs]; simp; omega)
      rw [be, bs_append]
      rw [ByteArray.append_assoc]
      exact this
theorem bytes_ev {v n : Nat} (hn : n ≤ 1000) (hv : v < 18446744073709551616) : Ev (fun k => gangwayref01_Bytes.f k (v : Int) (n : Int)) (bs (be n v)) := by
  have := bytes_l0_ev n hn n 0 v (⟨#[]⟩ : ByteArray) hv (Nat.zero_le _) (by omega) rfl
  have e : bs (be n v) ++ (⟨#[]⟩ : ByteArray) = bs (be n v) := by
    apply ByteArray.ext
    rw [ByteArray.data_append]
    simp
  rw [e] at this
  exact this
end Go.Proofs.YtbkgaplldfilnaaDoor.P
namespace Go.Proofs.YtbkgaplldfilnaaDoor.P
open Go Go.RowKit Go.Proofs.YtbkgaplldfilnaaDoorW.PrintWords Go.Proofs.YtbkgaplldfilnaaDoorW.PrintLast Go.Proofs.YtbkgaplldfilnaaDoorW.PrintMore Go.Proofs.YtbkgaplldfilnaaDoor.L

theorem wraps_u64 (n : Int) (h₀ : 0 ≤ n) (h₁ : n < 2 ^ 64) : IntKind.u64.wrap n = n := u64w h₀ (by
  have : (2 : Int) ^ 64 = 18446744073709551616 := by decide
  omega)
theorem or_byte {v x : Nat} (hv : v * 256 < 18446744073709551616) (hx : x < 256) : Go.bits .or .u64 (IntKind.u64.wrap ((v : Int) * 256)) (IntKind.u64.wrap (x : Int)) = ((v * 256 + x : Nat) : Int) := by
  rw [u64w (by omega) (by omega), u64w (by omega) (by omega)]
  have e : (2 : Int) ^ 64 = 18446744073709551616 := by decide
  have e8 : (2 : Int) ^ 8 = 256 := by decide
  rw [Go.bits_join .u64 64 (by decide) wraps_u64 8 ((v : Int) * 256) (x : Int) (by omega) (by rw [e8]; omega) (by rw [e]; omega) (by omega) (by rw [e8]; omega) (by rw [e]; omega)]
  omega
theorem num_take_lt {l : List Nat} (h : Byt l) {m : Nat} (hm : m ≤ 7) : num (l.take m) * 256 < 18446744073709551616 := by
  have h1 := num_lt (h.take m)
  have h2 : (l.take m).length ≤ 7 := by rw [List.length_take]; omega
  have h3 : 256 ^ (l.take m).length ≤ 256 ^ 7 := Nat.pow_le_pow_right (by decide) h2
  have h4 : (256 : Nat) ^ 7 = 72057594037927936 := by decide
  omega
theorem take_succ_getD {l : List Nat} {i : Nat} (h : i < l.length) : l.take (i + 1) = l.take i ++ [l.getD i 0] := by
  rw [List.take_succ_eq_append_getElem h]
  simp [List.getD_eq_getElem?_getD, List.getElem?_eq_getElem h]
theorem getD_byte {l : List Nat} (h : Byt l) (i : Nat) : l.getD i 0 < 256 := by
  rw [List.getD_eq_getElem?_getD]
  by_cases hi : i < l.length
  · rw [List.getElem?_eq_getElem hi]
    exact h _ (List.getElem_mem hi)
  · rw [List.getElem?_eq_none (by omega)]
    decide
theorem get_l0_ev (t : ByteArray) (n : Nat) (hn : n ≤ 8) (ht : t.size = n) (d : Nat) : ∀ i : Nat, i ≤ n → n - i = d →
    Ev (fun k => octets_Get.l0 k t ((num ((nb t).take i) : Nat) : Int) (n : Int) (i : Int)) (((num (nb t) : Nat) : Int), 0) := by
  have hl := nb_len t
  have hby := nb_byt t
  induction d with
  | zero =>
    intro i hi hd
    refine ⟨1, fun k hk => ?_⟩
    obtain ⟨m, rfl⟩ : ∃ m, k = m + 1 := ⟨k - 1, by omega⟩
    simp only [octets_Get.l0]
    rw [if_neg (by omega), List.take_of_length_le (by omega)]
  | succ d ih =>
    intro i hi hd
    have hlt : i < (nb t).length := by omega
    have hb := getD_byte hby i
    have hv := num_take_lt (m := i) hby (by omega)
    refine Ev.step (f := fun k => octets_Get.l0 k t ((num ((nb t).take (i + 1)) : Nat) : Int) (n : Int) ((i + 1 : Nat) : Int)) (fun k => ?_) (ih (i + 1) (by omega) (by omega))
    simp only [octets_Get.l0]
    rw [if_pos (by omega), if_pos (by omega), if_pos (by omega), bt_nb, Int.toNat_natCast, or_byte hv hb, w64 (x := (i : Int) + 1) (by omega) (by omega), take_succ_getD hlt, num_snoc]
    rfl
theorem num_l0_ev (t : ByteArray) (ht : t.size ≤ 8) (d : Nat) : ∀ i : Nat, i ≤ t.size → t.size - i = d →
    Ev (fun k => gangwayref01_Num.l0 k t ((num ((nb t).take i) : Nat) : Int) (i : Int)) ((num (nb t) : Nat) : Int) := by
  have hl := nb_len t
  have hby := nb_byt t
  induction d with
  | zero =>
    intro i hi hd
    refine ⟨1, fun k hk => ?_⟩
    obtain ⟨m, rfl⟩ : ∃ m, k = m + 1 := ⟨k - 1, by omega⟩
    simp only [gangwayref01_Num.l0]
    rw [if_neg (by omega), List.take_of_length_le (by omega)]
  | succ d ih =>
    intro i hi hd
    have hlt : i < (nb t).length := by omega
    have hb := getD_byte hby i
    have hv := num_take_lt (m := i) hby (by omega)
    refine Ev.step (f := fun k => gangwayref01_Num.l0 k t ((num ((nb t).take (i + 1)) : Nat) : Int) ((i + 1 : Nat) : Int)) (fun k => ?_) (ih (i + 1) (by omega) (by omega))
    simp only [gangwayref01_Num.l0]
    rw [if_pos (by omega), if_pos (by omega), bt_nb, Int.toNat_natCast, u64w (x := ((num ((nb t).take i) : Nat) : Int) * 256) (by omega) (by omega), u64w (x := (((nb t).getD i 0 : Nat) : Int)) (by omega) (by omega), u64w (by omega) (by omega), w64 (x := (i : Int) + 1) (by omega) (by omega), take_succ_getD hlt, num_snoc]
    congr 1
theorem num_ev {t : ByteArray} (ht : t.size ≤ 8) : Ev (fun k => gangwayref01_Num.f k t) ((num (nb t) : Nat) : Int) := by
  have := num_l0_ev t ht t.size 0 (Nat.zero_le _) rfl
  show Ev (fun k => gangwayref01_Num.l0 k t 0 0) _
  simpa [num] using this
def numAt (l : List Nat) (i n : Nat) : Nat := num ((l.drop i).take n)
theorem numAt_lt {l : List Nat} (h : Byt l) (i n : Nat) : numAt l i n < 256 ^ n := by
  have h1 := num_lt ((h.drop i).take n)
  have h2 : ((l.drop i).take n).length ≤ n := by rw [List.length_take]; omega
  have h3 : 256 ^ ((l.drop i).take n).length ≤ 256 ^ n := Nat.pow_le_pow_right (by decide) h2
  exact Nat.lt_of_lt_of_le h1 h3
theorem get_ev {s : ByteArray} {i n : Nat} (h1 : 1 ≤ n) (h8 : n ≤ 8) (hi : i + n ≤ s.size) (hs : s.size ≤ 1099511627776) : Ev (fun k => octets_Get.f k s (i : Int) (n : Int)) (((numAt (nb s) i n : Nat) : Int), 0) := by
  have hp : octets_part.f s (i : Int) (n : Int) = some (s.extract i (i + n), none) := by
    unfold octets_part.f
    rw [if_pos (by omega), if_pos (by omega), if_pos (by omega), if_pos hs]
    rfl
  have hn : nb (s.extract i (i + n)) = ((nb s).drop i).take n := by
    rw [nb_extract, List.drop_take, Nat.add_sub_cancel_left]
  unfold octets_Get.f
  refine ev_neg (by omega) ?_
  rw [decide_eq_false (by omega)]
  refine ev_succ ?_
  simp only [octets_Get.j0, Bool.false_eq_true, if_false]
  rw [hp]
  refine ev_some (ev_pos rfl ?_)
  have := get_l0_ev (s.extract i (i + n)) n h8 (by rw [ByteArray.size_extract]; omega) n 0 (Nat.zero_le _) rfl
  rw [hn] at this
  exact this
end Go.Proofs.YtbkgaplldfilnaaDoor.P
namespace Go.Proofs.YtbkgaplldfilnaaDoor.P
open Go Go.RowKit Go.Proofs.YtbkgaplldfilnaaDoorW.PrintWords Go.Proofs.YtbkgaplldfilnaaDoorW.PrintLast Go.Proofs.YtbkgaplldfilnaaDoorW.PrintMore Go.Proofs.YtbkgaplldfilnaaDoor.L

def wsum : List Nat → Nat
  | [] => 0
  | [a] => 256 * a
  | a :: b :: r => 256 * a + b + wsum r
def foldN (n : Nat) : Nat := if n = 0 then 0 else (n - 1) % 65535 + 1
theorem foldN_le (n : Nat) : foldN n ≤ 65535 := by unfold foldN; split <;> omega
theorem foldN_add (a b : Nat) : foldN (foldN a + b) = foldN (a + b) := by
  unfold foldN
  by_cases ha : a = 0
  · simp [ha]
  · rw [if_neg ha]
    rw [if_neg (by omega), if_neg (by omega)]
    omega
theorem foldN_small {n : Nat} (h : n ≤ 65535) : foldN n = n := by
  unfold foldN
  split <;> omega
theorem wsum_le {l : List Nat} (h : Byt l) : wsum l ≤ 65535 * l.length := by
  suffices ∀ n (l : List Nat), l.length ≤ n → Byt l → wsum l ≤ 65535 * l.length from this _ l (Nat.le_refl _) h
  intro n
  induction n with
  | zero => intro l hl _; obtain rfl := List.eq_nil_of_length_eq_zero (show l.length = 0 by omega); simp [wsum]
  | succ n ih =>
    intro l hl hb
    match l, hl, hb with
    | [], _, _ => simp [wsum]
    | [a], _, hb =>
      have := hb a (by simp)
      simp only [wsum, List.length_singleton]
      omega
    | a :: b :: r, hl, hb =>
      have h1 := hb a (by simp)
      have h2 := hb b (by simp)
      have h3 := ih r (by simp at hl; omega) (fun x hx => hb x (by simp [hx]))
      simp only [wsum, List.length_cons]
      omega
theorem wsum_append {l : List Nat} (m : List Nat) (h : l.length % 2 = 0) : wsum (l ++ m) = wsum l + wsum m := by
  suffices ∀ n (l : List Nat), l.length ≤ n → l.length % 2 = 0 → wsum (l ++ m) = wsum l + wsum m from this _ l (Nat.le_refl _) h
  intro n
  induction n with
  | zero => intro l hl _; obtain rfl := List.eq_nil_of_length_eq_zero (show l.length = 0 by omega); simp [wsum]
  | succ n ih =>
    intro l hl he
    match l, hl, he with
    | [], _, _ => simp [wsum]
    | [a], _, he => simp at he
    | a :: b :: r, hl, he =>
      have h3 := ih r (by simp at hl; omega) (by simp at he; omega)
      simp only [wsum, List.cons_append]
      rw [h3]
      omega
theorem wsum_snoc (l : List Nat) (x : Nat) : wsum (l ++ [x]) = wsum l + (if l.length % 2 = 0 then 256 * x else x) := by
  suffices ∀ n (l : List Nat), l.length ≤ n → wsum (l ++ [x]) = wsum l + (if l.length % 2 = 0 then 256 * x else x) from this _ l (Nat.le_refl _)
  intro n
  induction n with
  | zero => intro l hl; obtain rfl := List.eq_nil_of_length_eq_zero (show l.length = 0 by omega); simp [wsum]
  | succ n ih =>
    intro l hl
    match l, hl with
    | [], _ => simp [wsum]
    | [a], _ => simp [wsum]
    | a :: b :: r, hl =>
      have h3 := ih r (by simp at hl; omega)
      simp only [wsum, List.cons_append]
      rw [h3]
      have : (a :: b :: r).length % 2 = r.length % 2 := by simp [Nat.add_assoc, Nat.add_mod_right]
      rw [this]
      omega
theorem drop_two {l : List Nat} {i : Nat} (h : i + 1 < l.length) : l.drop i = l.getD i 0 :: l.getD (i + 1) 0 :: l.drop (i + 2) := by
  rw [List.drop_eq_getElem_cons (by omega), List.drop_eq_getElem_cons (by omega)]
  simp [List.getD_eq_getElem?_getD, List.getElem?_eq_getElem (show i < l.length by omega), List.getElem?_eq_getElem h]
theorem getD_byt {l : List Nat} (h : Byt l) (i : Nat) : l.getD i 0 < 256 := by
  rw [List.getD_eq_getElem?_getD]
  by_cases hi : i < l.length
  · rw [List.getElem?_eq_getElem hi]
    exact h _ (List.getElem_mem hi)
  · rw [List.getElem?_eq_none (by omega)]
    decide

theorem fold_ev (n : Nat) (hn : n < 4611686018427387904) : Ev (fun k => csum_fold.l0 k (n : Int)) (foldN n : Int) := by
  induction n using Nat.strongRecOn with
  | _ n ih =>
    by_cases h : 65535 < n
    · have e : foldN n = foldN (n % 65536 + n / 65536) := by
        unfold foldN
        rw [if_neg (by omega), if_neg (by omega)]
        omega
      rw [e]
      refine Ev.step (f := fun k => csum_fold.l0 k ((n % 65536 + n / 65536 : Nat) : Int)) (fun k => ?_) (ih _ (by omega) (by omega))
      simp only [csum_fold.l0]
      rw [if_pos (by omega), mask16, w64 (by omega) (by omega)]
      congr 1
    · refine ⟨1, fun k hk => ?_⟩
      obtain ⟨m, rfl⟩ : ∃ m, k = m + 1 := ⟨k - 1, by omega⟩
      simp only [csum_fold.l0]
      rw [if_neg (by omega), foldN_small (by omega)]
theorem fold_f_ev (n : Nat) (hn : n < 4611686018427387904) : Ev (fun k => csum_fold.f k (n : Int)) (foldN n : Int) := fold_ev n hn

theorem total_l0_ev (s : ByteArray) (he : s.size % 2 = 0) (hs : s.size ≤ 1099511627776) (d : Nat) : ∀ (i a : Nat), i % 2 = 0 → i ≤ s.size → s.size - i = d →
    Ev (fun k => csum_total.l0 k s (foldN a : Int) (i : Int)) (foldN (a + wsum ((nb s).drop i)) : Int) := by
  have hl := nb_len s
  have hby := nb_byt s
  induction d using Nat.strongRecOn with
  | _ d ih =>
    intro i a hi hle hd
    by_cases h : i < s.size
    · have h1 : i + 1 < (nb s).length := by omega
      have e1 : foldN (a + wsum ((nb s).drop i)) = foldN ((a + (256 * (nb s).getD i 0 + (nb s).getD (i + 1) 0)) + wsum ((nb s).drop (i + 2))) := by
        rw [drop_two h1]
        simp only [wsum]
        congr 1
        omega
      have hb1 := getD_byt hby i
      have hb2 := getD_byt hby (i + 1)
      have hf := foldN_le a
      have hfold : foldN (foldN a + (256 * (nb s).getD i 0 + (nb s).getD (i + 1) 0)) = foldN (a + (256 * (nb s).getD i 0 + (nb s).getD (i + 1) 0)) := foldN_add _ _
      have hev := fold_f_ev (foldN a + (256 * (nb s).getD i 0 + (nb s).getD (i + 1) 0)) (by omega)
      have hrest := ih (s.size - (i + 2)) (by omega) (i + 2) (a + (256 * (nb s).getD i 0 + (nb s).getD (i + 1) 0)) (by omega) (by omega) rfl
      rw [e1]
      refine Ev.step (f := fun k => (csum_fold.f k ((foldN a + (256 * (nb s).getD i 0 + (nb s).getD (i + 1) 0) : Nat) : Int)).bind fun t => csum_total.l0 k s t ((i + 2 : Nat) : Int)) (fun k => ?_) ?_
      · simp only [csum_total.l0]
        rw [if_pos (by omega), if_pos (by omega), w64 (x := (i : Int) + 1) (by omega) (by omega), if_pos (by omega), if_pos (by omega)]
        rw [bt_nb, bt_nb, Int.toNat_natCast, show ((i : Int) + 1).toNat = i + 1 by omega]
        rw [w64 (x := (((nb s).getD i 0 : Nat) : Int)) (by omega) (by omega), w64 (x := (((nb s).getD (i + 1) 0 : Nat) : Int)) (by omega) (by omega)]
        rw [w64 (x := (((nb s).getD i 0 : Nat) : Int) * 256) (by omega) (by omega), w64 (x := (foldN a : Int) + _) (by omega) (by omega), w64 (x := _ + (((nb s).getD (i + 1) 0 : Nat) : Int)) (by omega) (by omega), w64 (x := (i : Int) + 2) (by omega) (by omega)]
        have ea : ((foldN a : Int) + ((nb s).getD i 0 : Int) * 256 + ((nb s).getD (i + 1) 0 : Int)) = ((foldN a + (256 * (nb s).getD i 0 + (nb s).getD (i + 1) 0) : Nat) : Int) := by omega
        rw [ea]
        rfl
      · refine Ev.bind hev ?_
        rw [hfold]
        exact hrest
    · refine ⟨1, fun k hk => ?_⟩
      obtain ⟨m, rfl⟩ : ∃ m, k = m + 1 := ⟨k - 1, by omega⟩
      simp only [csum_total.l0]
      rw [if_neg (by omega), List.drop_eq_nil_of_le (by omega)]
      rfl
theorem total_j0_ev (s : ByteArray) (he : s.size % 2 = 0) (hs : s.size ≤ 1099511627776) : Ev (fun k => csum_total.j0 k s) (foldN (wsum (nb s)) : Int) := by
  refine Ev.step (f := fun k => csum_total.l0 k s 0 0) (fun k => by simp only [csum_total.j0]) ?_
  have := total_l0_ev s he hs s.size 0 0 rfl (Nat.zero_le _) rfl
  simpa [show foldN 0 = 0 from rfl] using this

def cat (l : List ByteArray) : List Nat := (l.map nb).flatten
theorem cat_byt (l : List ByteArray) : Byt (cat l) := by
  intro x hx
  obtain ⟨m, hm, hx⟩ := List.mem_flatten.1 hx
  obtain ⟨s, _, rfl⟩ := List.mem_map.1 hm
  exact nb_byt s x hx
theorem joined_nil (l : List ByteArray) : (joined_ l (⟨#[]⟩ : ByteArray)).map UInt8.toNat = cat l := by
  unfold joined_ cat
  show (Go.Lib.join (l.map (·.data.toList)) []).map UInt8.toNat = _
  have e : ∀ m : List (List UInt8), Go.Lib.join m [] = m.flatten := by
    intro m
    match m with
    | [] => rfl
    | x :: r => rw [Go.Lib.join_cons, Go.Lib.joinTail]; simp
  rw [e, List.map_flatten, List.map_map]
  rfl
theorem join_nil {l : List ByteArray} (h1 : l.length ≤ 1099511627776) (h2 : (cat l).length ≤ 1099511627776) : strings_Join.f l (⟨#[]⟩ : ByteArray) = some (bs (cat l)) := by
  have hj : (joined_ l (⟨#[]⟩ : ByteArray)).length = (cat l).length := by rw [← joined_nil, List.length_map]
  unfold strings_Join.f
  rw [if_pos (by omega), if_pos (by omega)]
  congr 1
  apply nb_inj
  rw [nb_bs (cat_byt l), ← joined_nil]
  simp [nb]
theorem total_f_ev {l : List ByteArray} (h1 : l.length ≤ 1099511627775) (h2 : (cat l).length ≤ 1099511627775) : Ev (fun k => csum_total.f k l) (foldN (wsum (cat l)) : Int) := by
  have hsz := bs_size (cat l)
  unfold csum_total.f
  rw [join_nil (by omega) (by omega)]
  simp only [Option.bind_some]
  by_cases ho : ((bs (cat l)).size : Int) % 2 = 1
  · simp only [if_pos ho, if_pos (show (bs (cat l)).size + 1 ≤ 9223372036854775807 by omega)]
    have hs2 : (bs (cat l) ++ (⟨#[0]⟩ : ByteArray)).size = (bs (cat l)).size + 1 := by rw [ByteArray.size_append]; rfl
    have := total_j0_ev (bs (cat l) ++ (⟨#[0]⟩ : ByteArray)) (by omega) (by omega)
    rw [nb_append, nb_bs (cat_byt l), show nb (⟨#[0]⟩ : ByteArray) = [0] from rfl, wsum_snoc] at this
    simpa using this
  · simp only [if_neg ho]
    have := total_j0_ev (bs (cat l)) (by omega) (by omega)
    rwa [nb_bs (cat_byt l)] at this
def csumN (l : List Nat) : Nat := 65535 - foldN (wsum l)
theorem of_f_ev {l : List ByteArray} (h1 : l.length ≤ 1099511627775) (h2 : (cat l).length ≤ 1099511627775) : Ev (fun k => csum_Of.f k l) (csumN (cat l) : Int) := by
  unfold csum_Of.f
  have hf := foldN_le (wsum (cat l))
  refine Ev.bind (total_f_ev h1 h2) ?_
  have e : wrap64 (65535 - (foldN (wsum (cat l)) : Int)) = (csumN (cat l) : Int) := by
    unfold csumN
    rw [w64 (by omega) (by omega)]
    omega
  rw [e]
  exact Ev.now _
theorem right_f_ev {l : List ByteArray} (h1 : l.length ≤ 1099511627775) (h2 : (cat l).length ≤ 1099511627775) : Ev (fun k => csum_Right.f k l) (decide (foldN (wsum (cat l)) = 65535)) := by
  unfold csum_Right.f
  refine Ev.bind (total_f_ev h1 h2) ?_
  have e : (((foldN (wsum (cat l)) : Nat) : Int) == 65535) = decide (foldN (wsum (cat l)) = 65535) := by
    rw [Bool.eq_iff_iff]
    simp
    omega
  rw [e]
  exact Ev.now _
theorem cat_one (s : ByteArray) : cat [s] = nb s := by simp [cat]
theorem cat_two (s t : ByteArray) : cat [s, t] = nb s ++ nb t := by simp [cat]
theorem cat_three (s t u : ByteArray) : cat [s, t, u] = nb s ++ (nb t ++ nb u) := by simp [cat]

end Go.Proofs.YtbkgaplldfilnaaDoor.P
namespace Go.Proofs.YtbkgaplldfilnaaDoor.P
open Go Go.RowKit Go.Proofs.YtbkgaplldfilnaaDoorW.PrintWords Go.Proofs.YtbkgaplldfilnaaDoorW.PrintLast Go.Proofs.YtbkgaplldfilnaaDoorW.PrintMore Go.Proofs.YtbkgaplldfilnaaDoor.L

def headL (a b : Nat) (p n : Int) : List Nat := be 4 a ++ be 4 b ++ [0, (p % 256).toNat] ++ be 2 (n % 65536).toNat
theorem headL_byt (a b : Nat) (p n : Int) : Byt (headL a b p n) := by
  have hp := Int.emod_nonneg p (show (256 : Int) ≠ 0 by decide)
  have hp2 := Int.emod_lt_of_pos p (show (0 : Int) < 256 by decide)
  exact (((be_byt _ _).append (be_byt _ _)).append (Byt.cons (by decide) (Byt.cons (by omega) Byt.nil))).append (be_byt _ _)
theorem headL_len (a b : Nat) (p n : Int) : (headL a b p n).length = 12 := by simp [headL, be_len]
theorem head_f_ev {a b : Nat} (ha : a < 4294967296) (hb : b < 4294967296) (p n : Int) : Ev (fun k => csum_Head.f k (a : Int) (b : Int) p n) (bs (headL a b p n)) := by
  have hn := Int.emod_nonneg n (show (65536 : Int) ≠ 0 by decide)
  have hn2 := Int.emod_lt_of_pos n (show (0 : Int) < 65536 by decide)
  have hp := Int.emod_nonneg p (show (256 : Int) ≠ 0 by decide)
  have hp2 := Int.emod_lt_of_pos p (show (0 : Int) < 256 by decide)
  have es : strOfNums [0, p % 256] = bs [0, (p % 256).toNat] := by
    rw [nums_bs _ (by simp; omega)]
    rfl
  unfold csum_Head.f
  rw [u64w (x := (a : Int)) (by omega) (by omega), u64w (x := (b : Int)) (by omega) (by omega), mask16, u64w (x := n % 65536) (by omega) (by omega)]
  rw [show n % 65536 = (((n % 65536).toNat : Nat) : Int) by omega]
  refine Ev.bind (put_ev (v := a) (n := 4) (by decide) (by decide) (by omega)) ?_
  refine Ev.bind (put_ev (v := b) (n := 4) (by decide) (by decide) (by omega)) ?_
  refine Ev.bind (put_ev (v := (n % 65536).toNat) (n := 2) (by decide) (by decide) (by omega)) ?_
  refine ev_pos (by simp [bs_size, be_len]) ?_
  refine ev_some ?_
  rw [es]
  refine ev_pos (by simp [ByteArray.size_append, bs_size, be_len]) ?_
  refine ev_pos (by simp [ByteArray.size_append, bs_size, be_len]) ?_
  refine ev_now ?_
  unfold headL
  rw [bs_append, bs_append, bs_append]
theorem fold_ref (n : Nat) (hn : n < 4611686018427387904) : gangwayref03_Fold.f (n : Int) = some ((foldN n : Nat) : Int) := by
  unfold gangwayref03_Fold.f foldN
  by_cases h : n = 0
  · rw [if_pos (by omega), if_pos h]
    rfl
  · rw [if_neg (by omega), if_neg h]
    congr 1
    rw [w64 (x := (n : Int) - 1) (by omega) (by omega), Int.tmod_eq_emod_of_nonneg (by omega), w64 (by omega) (by omega)]
    omega
theorem total_ref_ev (s : ByteArray) (hs : s.size ≤ 1099511627776) (d : Nat) : ∀ i : Nat, i ≤ s.size → s.size - i = d →
    Ev (fun k => gangwayref03_Total.l0 k s ((wsum ((nb s).take i) : Nat) : Int) (i : Int)) ((wsum (nb s) : Nat) : Int) := by
  have hl := nb_len s
  have hby := nb_byt s
  induction d with
  | zero =>
    intro i hi hd
    refine ⟨1, fun k hk => ?_⟩
    obtain ⟨m, rfl⟩ : ∃ m, k = m + 1 := ⟨k - 1, by omega⟩
    simp only [gangwayref03_Total.l0]
    rw [if_neg (by omega), List.take_of_length_le (by omega)]
  | succ d ih =>
    intro i hi hd
    have hlt : i < (nb s).length := by omega
    have ht : (nb s).take (i + 1) = (nb s).take i ++ [(nb s).getD i 0] := by
      rw [List.take_succ_eq_append_getElem hlt]
      simp [List.getD_eq_getElem?_getD, List.getElem?_eq_getElem hlt]
    have hw := wsum_le (hby.take i)
    have hlen : ((nb s).take i).length = i := by rw [List.length_take]; omega
    have hb1 := getD_byt hby i
    have hstep := ih (i + 1) (by omega) (by omega)
    rw [ht, wsum_snoc, hlen] at hstep
    refine Ev.step (f := fun k => gangwayref03_Total.l0 k s (((wsum ((nb s).take i) + if i % 2 = 0 then 256 * (nb s).getD i 0 else (nb s).getD i 0) : Nat) : Int) ((i + 1 : Nat) : Int)) (fun k => ?_) hstep
    simp only [gangwayref03_Total.l0]
    rw [if_pos (by omega), bt_nb, Int.toNat_natCast, Int.tmod_eq_emod_of_nonneg (by omega)]
    rw [w64 (x := (((nb s).getD i 0 : Nat) : Int)) (by omega) (by omega), w64 (x := 256 * (((nb s).getD i 0 : Nat) : Int)) (by omega) (by omega), w64 (x := (i : Int) + 1) (by omega) (by omega)]
    by_cases he : i % 2 = 0
    · rw [if_pos (by omega), if_pos (by omega), if_pos he, w64 (by omega) (by omega)]
      simp
    · rw [if_neg (by omega), if_pos (by omega), if_neg he, w64 (by omega) (by omega)]
      simp
theorem total_ref_f_ev {s : ByteArray} (hs : s.size ≤ 1099511627776) : Ev (fun k => gangwayref03_Total.f k s) ((wsum (nb s) : Nat) : Int) := by
  have := total_ref_ev s hs s.size 0 (Nat.zero_le _) rfl
  show Ev (fun k => gangwayref03_Total.l0 k s 0 0) _
  simpa [wsum] using this
theorem of_ref_ev {s : ByteArray} (hs : s.size ≤ 1099511627776) : Ev (fun k => gangwayref03_Of.f k s) ((csumN (nb s) : Nat) : Int) := by
  unfold gangwayref03_Of.f
  have hw := wsum_le (nb_byt s)
  rw [nb_len] at hw
  have hf := foldN_le (wsum (nb s))
  refine Ev.bind (total_ref_f_ev hs) ?_
  rw [fold_ref _ (by omega)]
  refine ev_some (ev_now ?_)
  unfold csumN
  rw [w64 (by omega) (by omega)]
  omega
theorem low_ref (n : Int) : gangwayref03_low.f n = some (n % 65536) := by
  unfold gangwayref03_low.f
  congr 1
  have h := @Int.tmod_eq_emod n 65536
  have h2 : (n.tmod 65536) = if 0 ≤ n then n % 65536 else if n % 65536 = 0 then 0 else n % 65536 - 65536 := by
    rw [h]
    by_cases h0 : 0 ≤ n
    · rw [if_pos h0, if_pos (Or.inl h0)]
      omega
    · rw [if_neg h0]
      by_cases hd : n % 65536 = 0
      · rw [if_pos hd, if_pos (Or.inr (Int.dvd_of_emod_eq_zero hd))]
        omega
      · rw [if_neg hd, if_neg (by
          rintro (h3 | h3)
          · exact h0 h3
          · exact hd (Int.emod_eq_zero_of_dvd h3))]
        rfl
  have hr1 := Int.emod_nonneg n (show (65536 : Int) ≠ 0 by decide)
  have hr2 := Int.emod_lt_of_pos n (show (0 : Int) < 65536 by decide)
  generalize n % 65536 = r at *
  rw [h2]
  split
  · rw [w64 (by omega) (by omega), Int.tmod_eq_emod_of_nonneg (by omega)]
    omega
  · split
    · rw [w64 (by omega) (by omega), Int.tmod_eq_emod_of_nonneg (by omega)]
      omega
    · rw [w64 (by omega) (by omega), Int.tmod_eq_emod_of_nonneg (by omega)]
      omega
theorem headR_ev {a b : Nat} (ha : a < 4294967296) (hb : b < 4294967296) (p n : Int) : Ev (fun k => gangwayref03_Head.f k (a : Int) (b : Int) p n) (bs (headL a b p n)) := by
  have hn := Int.emod_nonneg n (show (65536 : Int) ≠ 0 by decide)
  have hn2 := Int.emod_lt_of_pos n (show (0 : Int) < 65536 by decide)
  have hp := Int.emod_nonneg p (show (256 : Int) ≠ 0 by decide)
  have hp2 := Int.emod_lt_of_pos p (show (0 : Int) < 256 by decide)
  unfold gangwayref03_Head.f
  rw [u64w (x := (a : Int)) (by omega) (by omega), u64w (x := (b : Int)) (by omega) (by omega), show p % 256 = (((p % 256).toNat : Nat) : Int) by omega, low_ref n]
  refine Ev.bind (bytes_ev (n := 4) (by decide) (by omega)) ?_
  refine Ev.bind (bytes_ev (n := 4) (by decide) (by omega)) ?_
  refine ev_pos (by simp [bs_size, be_len]) ?_
  refine Ev.bind (bytes_ev (n := 2) (by decide) (by omega)) ?_
  refine ev_pos (by simp [ByteArray.size_append, bs_size, be_len]) ?_
  refine ev_some ?_
  rw [u64w (x := n % 65536) (by omega) (by omega), show n % 65536 = (((n % 65536).toNat : Nat) : Int) by omega]
  refine Ev.bind (bytes_ev (n := 2) (by decide) (by omega)) ?_
  refine ev_pos (by simp [ByteArray.size_append, bs_size, be_len]) ?_
  refine ev_now ?_
  have e : be 2 (p % 256).toNat = [0, (p % 256).toNat] := by
    simp only [be, List.nil_append, List.cons_append]
    rw [Nat.div_eq_of_lt (show (p % 256).toNat < 256 by omega), Nat.mod_eq_of_lt (show (p % 256).toNat < 256 by omega)]
  rw [e]
  unfold headL
  rw [bs_append, bs_append, bs_append]
end Go.Proofs.YtbkgaplldfilnaaDoor.P
namespace Go.Proofs.YtbkgaplldfilnaaDoor.P
open Go Go.RowKit Go.Proofs.YtbkgaplldfilnaaDoorW.PrintWords Go.Proofs.YtbkgaplldfilnaaDoorW.PrintLast Go.Proofs.YtbkgaplldfilnaaDoorW.PrintMore Go.Proofs.YtbkgaplldfilnaaDoor.L

theorem i_numAt_be {p : List Nat} (q : List Nat) {n v i : Nat} (hp : p.length = i) (hv : v < 256 ^ n) : numAt (p ++ (be n v ++ q)) i n = v := by
  unfold numAt
  rw [List.drop_append_of_le_length (by rw [hp]; exact Nat.le_refl _), List.drop_of_length_le (by rw [hp]; exact Nat.le_refl _), List.nil_append, List.take_append_of_le_length (by rw [be_len]; exact Nat.le_refl _), List.take_of_length_le (by rw [be_len]; exact Nat.le_refl _), num_be]
  exact Nat.mod_eq_of_lt hv
theorem i_wsum_two {x : Nat} (h : x < 65536) : wsum (be 2 x) = x := by
  simp only [be, List.nil_append, List.cons_append, wsum]
  omega
theorem i_wsum_four {x : Nat} (h : x < 4294967296) : wsum (be 4 x) = x / 65536 + x % 65536 := by
  simp only [be, List.nil_append, List.cons_append, wsum]
  omega
theorem i_wsum_pair (x y : Nat) : wsum [x, y] = x * 256 + y := by
  simp only [wsum]
  omega
theorem i_fold_iff (n : Nat) : foldN n = 65535 ↔ 0 < n ∧ n % 65535 = 0 := by
  unfold foldN
  split <;> omega
theorem i_fold_pos {n : Nat} (h : 0 < n) : 1 ≤ foldN n ∧ foldN n % 65535 = n % 65535 := by
  unfold foldN
  rw [if_neg (by omega)]
  omega
def iflags (off : Nat) (whole more : Bool) : Nat := off + (if whole = true then 16384 else 0) + (if more = true then 8192 else 0)
theorem iflags_lt {off : Nat} (h : off < 8192) (whole more : Bool) : iflags off whole more < 32768 := by
  unfold iflags
  split <;> split <;> omega
theorem iflags_tell {off : Nat} (h : off < 8192) (whole more : Bool) : iflags off whole more % 8192 = off ∧ decide (iflags off whole more / 16384 % 2 = 1) = whole ∧ decide (iflags off whole more / 8192 % 2 = 1) = more := by
  unfold iflags
  cases whole <;> cases more <;> simp <;> omega
def ifront (tos len id fl ttl proto : Nat) : List Nat := [69, tos] ++ (be 2 len ++ (be 2 id ++ (be 2 fl ++ [ttl, proto])))
theorem ifront_len (tos len id fl ttl proto : Nat) : (ifront tos len id fl ttl proto).length = 10 := by simp [ifront, be_len]
theorem ifront_byt {tos ttl proto : Nat} (len id fl : Nat) (h1 : tos < 256) (h2 : ttl < 256) (h3 : proto < 256) : Byt (ifront tos len id fl ttl proto) :=
  (Byt.cons (by decide) (Byt.cons h1 Byt.nil)).append ((be_byt _ _).append ((be_byt _ _).append ((be_byt _ _).append (Byt.cons h2 (Byt.cons h3 Byt.nil)))))
def iends (src dst : Nat) : List Nat := be 4 src ++ be 4 dst
theorem iends_len (src dst : Nat) : (iends src dst).length = 8 := by simp [iends, be_len]
theorem iends_byt (src dst : Nat) : Byt (iends src dst) := (be_byt _ _).append (be_byt _ _)
def ihead (tos len id fl ttl proto sum src dst : Nat) : List Nat := ifront tos len id fl ttl proto ++ (be 2 sum ++ iends src dst)
theorem ihead_len (tos len id fl ttl proto sum src dst : Nat) : (ihead tos len id fl ttl proto sum src dst).length = 20 := by
  unfold ihead
  rw [List.length_append, List.length_append, ifront_len, be_len, iends_len]
theorem ihead_byt {tos ttl proto : Nat} (len id fl sum src dst : Nat) (h1 : tos < 256) (h2 : ttl < 256) (h3 : proto < 256) : Byt (ihead tos len id fl ttl proto sum src dst) :=
  (ifront_byt len id fl h1 h2 h3).append ((be_byt _ _).append (iends_byt _ _))
theorem ihead_wsum {len id fl sum src dst : Nat} (tos ttl proto : Nat) (h1 : len < 65536) (h2 : id < 65536) (h3 : fl < 65536) (h4 : sum < 65536) (h5 : src < 4294967296) (h6 : dst < 4294967296) :
    wsum (ihead tos len id fl ttl proto sum src dst) = 69 * 256 + tos + len + id + fl + (ttl * 256 + proto) + sum + (src / 65536 + src % 65536) + (dst / 65536 + dst % 65536) := by
  unfold ihead ifront iends
  simp only [List.append_assoc]
  rw [wsum_append _ (by simp), i_wsum_pair, wsum_append _ (by rw [be_len]), i_wsum_two h1, wsum_append _ (by rw [be_len]), i_wsum_two h2, wsum_append _ (by rw [be_len]), i_wsum_two h3, wsum_append _ (by simp), i_wsum_pair, wsum_append _ (by rw [be_len]), i_wsum_two h4, wsum_append _ (by rw [be_len]), i_wsum_four h5, i_wsum_four h6]
  omega
theorem ihead_tells {tos len id fl ttl proto sum src dst : Nat} (more : List Nat) (h1 : len < 65536) (h2 : id < 65536) (h3 : fl < 65536) (h4 : sum < 65536) (h5 : src < 4294967296) (h6 : dst < 4294967296) :
    (ihead tos len id fl ttl proto sum src dst ++ more).getD 0 0 = 69 ∧ (ihead tos len id fl ttl proto sum src dst ++ more).getD 1 0 = tos ∧ numAt (ihead tos len id fl ttl proto sum src dst ++ more) 2 2 = len ∧ numAt (ihead tos len id fl ttl proto sum src dst ++ more) 4 2 = id ∧
    numAt (ihead tos len id fl ttl proto sum src dst ++ more) 6 2 = fl ∧ (ihead tos len id fl ttl proto sum src dst ++ more).getD 8 0 = ttl ∧ (ihead tos len id fl ttl proto sum src dst ++ more).getD 9 0 = proto ∧ numAt (ihead tos len id fl ttl proto sum src dst ++ more) 10 2 = sum ∧
    numAt (ihead tos len id fl ttl proto sum src dst ++ more) 12 4 = src ∧ numAt (ihead tos len id fl ttl proto sum src dst ++ more) 16 4 = dst := by
  have e2 : (256 : Nat) ^ 2 = 65536 := by decide
  have e4 : (256 : Nat) ^ 4 = 4294967296 := by decide
  have fl0 : ihead tos len id fl ttl proto sum src dst ++ more = [69, tos] ++ (be 2 len ++ (be 2 id ++ (be 2 fl ++ ([ttl, proto] ++ (be 2 sum ++ (be 4 src ++ (be 4 dst ++ more))))))) := by
    unfold ihead ifront iends
    simp only [List.append_assoc]
  rw [fl0]
  refine ⟨rfl, rfl, ?_, ?_, ?_, rfl, rfl, ?_, ?_, ?_⟩
  · exact i_numAt_be _ rfl (by omega)
  · rw [← List.append_assoc]
    exact i_numAt_be _ (by simp [be_len]) (by omega)
  · rw [← List.append_assoc, ← List.append_assoc]
    exact i_numAt_be _ (by simp [be_len]) (by omega)
  · rw [← List.append_assoc, ← List.append_assoc, ← List.append_assoc, ← List.append_assoc]
    exact i_numAt_be _ (by simp [be_len]) (by omega)
  · rw [← List.append_assoc, ← List.append_assoc, ← List.append_assoc, ← List.append_assoc, ← List.append_assoc]
    exact i_numAt_be _ (by simp [be_len]) (by omega)
  · rw [← List.append_assoc, ← List.append_assoc, ← List.append_assoc, ← List.append_assoc, ← List.append_assoc, ← List.append_assoc]
    exact i_numAt_be _ (by simp [be_len]) (by omega)
theorem i_getD_at {l : List Nat} {i : Nat} (h : i < l.length) : l.drop i = l.getD i 0 :: l.drop (i + 1) := by
  rw [List.drop_eq_getElem_cons h]
  simp [List.getD_eq_getElem?_getD, List.getElem?_eq_getElem h]
end Go.Proofs.YtbkgaplldfilnaaDoor.P
namespace Go.Proofs.YtbkgaplldfilnaaDoor.P
open Go Go.RowKit Go.Proofs.YtbkgaplldfilnaaDoorW.PrintWords Go.Proofs.YtbkgaplldfilnaaDoorW.PrintLast Go.Proofs.YtbkgaplldfilnaaDoorW.PrintMore Go.Proofs.YtbkgaplldfilnaaDoor.L

def iok (tos id off ttl proto : Int) (n : Nat) : Bool := (decide (0 ≤ tos) && decide (tos < 256)) && (decide (0 ≤ ttl) && decide (ttl < 256)) && (decide (0 ≤ proto) && decide (proto < 256)) && (decide (0 ≤ id) && decide (id < 65536)) && (decide (0 ≤ off) && decide (off < 8192)) && decide (n ≤ 65515)
theorem iok_iff {tos id off ttl proto : Int} {n : Nat} : iok tos id off ttl proto n = true ↔ (0 ≤ tos ∧ tos < 256) ∧ (0 ≤ ttl ∧ ttl < 256) ∧ (0 ≤ proto ∧ proto < 256) ∧ (0 ≤ id ∧ id < 65536) ∧ (0 ≤ off ∧ off < 8192) ∧ n ≤ 65515 := by
  unfold iok
  simp [and_assoc]
theorem isum_arith (tos len id fl X F W S D : Nat) (hW : W = 69 * 256 + tos + len + id + fl + X + 0 + S + D) (hp: 1 ≤ F ∧ F % 65535 = W % 65535) (hle : F ≤ 65535) : 0 < 69 * 256 + tos + len + id + fl + X + (65535 - F) + S + D ∧ (69 * 256 + tos + len + id + fl + X + (65535 - F) + S + D) % 65535 = 0 := by omega
def isum (tos len id fl ttl proto src dst : Nat) : Nat := 65535 - foldN (wsum (ihead tos len id fl ttl proto 0 src dst))
theorem isum_lt (tos len id fl ttl proto src dst : Nat) : isum tos len id fl ttl proto src dst < 65536 := by
  unfold isum
  omega
def sumOk (tos len id fl ttl proto sum src dst : Nat) : Prop := foldN (wsum (ihead tos len id fl ttl proto sum src dst)) = 65535
theorem isum_ok {len id fl src dst : Nat} (tos ttl proto : Nat) (h1 : len < 65536) (h2 : id < 65536) (h3 : fl < 65536) (h5 : src < 4294967296) (h6 : dst < 4294967296) :
    sumOk tos len id fl ttl proto (isum tos len id fl ttl proto src dst) src dst := by
  unfold sumOk
  rw [i_fold_iff, ihead_wsum tos ttl proto h1 h2 h3 (isum_lt _ _ _ _ _ _ _ _) h5 h6]
  have e := ihead_wsum (sum := 0) tos ttl proto h1 h2 h3 (by decide) h5 h6
  unfold isum
  rw [e]
  obtain ⟨W, hW⟩ : ∃ W, W = 69 * 256 + tos + len + id + fl + (ttl * 256 + proto) + 0 + (src / 65536 + src % 65536) + (dst / 65536 + dst % 65536) := ⟨_, rfl⟩
  have hp := i_fold_pos (n := W) (by omega)
  have hle := foldN_le W
  have := isum_arith tos len id fl (ttl * 256 + proto) (foldN W) W (src / 65536 + src % 65536) (dst / 65536 + dst % 65536) hW hp hle
  rw [hW] at this
  exact this
def ibytes (tos id : Int) (whole more : Bool) (off ttl proto : Int) (sum src dst : Nat) (body : List Nat) : List Nat :=
  ihead tos.toNat (20 + body.length) id.toNat (iflags off.toNat whole more) ttl.toNat proto.toNat sum src dst ++ body
def itold (tos id : Int) (whole more : Bool) (off ttl proto : Int) (src dst : Nat) (body : List Nat) : Nat :=
  isum tos.toNat (20 + body.length) id.toNat (iflags off.toNat whole more) ttl.toNat proto.toNat src dst
theorem ibytes_len (tos id : Int) (whole more : Bool) (off ttl proto : Int) (sum src dst : Nat) (body : List Nat) : (ibytes tos id whole more off ttl proto sum src dst body).length = 20 + body.length := by
  unfold ibytes
  rw [List.length_append, ihead_len]
theorem ibytes_byt {tos id off ttl proto : Int} {n : Nat} (h : iok tos id off ttl proto n = true) (whole more : Bool) (sum src dst : Nat) {body : List Nat} (hb : Byt body) : Byt (ibytes tos id whole more off ttl proto sum src dst body) := by
  obtain ⟨⟨a0, a1⟩, ⟨b0, b1⟩, ⟨c0, c1⟩, _⟩ := iok_iff.1 h
  exact (ihead_byt _ _ _ _ _ _ (by omega) (by omega) (by omega)).append hb
def ibuild (tos id : Int) (whole more : Bool) (off ttl proto : Int) (src dst : Nat) (body : ByteArray) : ByteArray × Int :=
  if iok tos id off ttl proto body.size = true then (bs (ibytes tos id whole more off ttl proto (itold tos id whole more off ttl proto src dst (nb body)) src dst (nb body)), 0) else ((⟨#[]⟩ : ByteArray), 61)
abbrev Pk := Int × Int × Bool × Bool × Int × Int × Int × Int × Int × ByteArray × Int
def ibad (e : Int) : Pk := (0, 0, false, false, 0, 0, 0, 0, 0, (⟨#[]⟩ : ByteArray), e)
def iread (s : ByteArray) : Pk :=
  ((((nb s).getD 1 0 : Nat) : Int), ((numAt (nb s) 4 2 : Nat) : Int), decide (numAt (nb s) 6 2 / 16384 % 2 = 1), decide (numAt (nb s) 6 2 / 8192 % 2 = 1), ((numAt (nb s) 6 2 % 8192 : Nat) : Int), (((nb s).getD 8 0 : Nat) : Int), (((nb s).getD 9 0 : Nat) : Int), ((numAt (nb s) 12 4 : Nat) : Int), ((numAt (nb s) 16 4 : Nat) : Int), s.extract 20 (numAt (nb s) 2 2), 0)
def iwrong (s : ByteArray) : Int :=
  if s.size < 20 then 60 else if (nb s).getD 0 0 ≠ 69 then 61 else if foldN (wsum ((nb s).take 20)) ≠ 65535 then 62
  else if numAt (nb s) 2 2 < 20 then 61 else if 32768 ≤ numAt (nb s) 6 2 then 61 else if s.size < numAt (nb s) 2 2 then 60 else 0
def iparse (s : ByteArray) : Pk := if iwrong s = 0 then iread s else ibad (iwrong s)
theorem iwrong_cases (s : ByteArray) : iwrong s = 0 ∨ iwrong s = 60 ∨ iwrong s = 61 ∨ iwrong s = 62 := by
  unfold iwrong
  repeat' split
  all_goals simp
theorem iwrong_zero {s : ByteArray} (h1 : 20 ≤ s.size) (h2 : (nb s).getD 0 0 = 69) (h3 : foldN (wsum ((nb s).take 20)) = 65535) (h4 : 20 ≤ numAt (nb s) 2 2) (h5 : numAt (nb s) 6 2 < 32768) (h6 : numAt (nb s) 2 2 ≤ s.size) : iwrong s = 0 := by
  unfold iwrong
  rw [if_neg (by omega), if_neg (fun h => h h2), if_neg (fun h => h h3), if_neg (by omega), if_neg (by omega), if_neg (by omega)]
theorem inb {tos id off ttl proto : Int} {n : Nat} (h : iok tos id off ttl proto n = true) (whole more : Bool) (sum src dst : Nat) (body tail : ByteArray) :
    nb (bs (ibytes tos id whole more off ttl proto sum src dst (nb body)) ++ tail) = ibytes tos id whole more off ttl proto sum src dst (nb body) ++ nb tail := by
  rw [nb_append, nb_bs (ibytes_byt h whole more sum src dst (nb_byt body))]
theorem ibuilt_parse {tos id off ttl proto : Int} {whole more : Bool} {sum src dst : Nat} {body : ByteArray} (tail : ByteArray) (hok : iok tos id off ttl proto body.size = true) (h4 : sum < 65536) (h5 : src < 4294967296) (h6 : dst < 4294967296)
    (hs : sumOk tos.toNat (20 + body.size) id.toNat (iflags off.toNat whole more) ttl.toNat proto.toNat sum src dst) :
    iwrong (bs (ibytes tos id whole more off ttl proto sum src dst (nb body)) ++ tail) = 0 ∧ iread (bs (ibytes tos id whole more off ttl proto sum src dst (nb body)) ++ tail) = (tos, id, whole, more, off, ttl, proto, (src : Int), (dst : Int), body, 0) := by
  have hb := nb_len body
  obtain ⟨⟨a0, a1⟩, ⟨b0, b1⟩, ⟨c0, c1⟩, ⟨d0, d1⟩, ⟨o0, o1⟩, hn⟩ := iok_iff.1 hok
  have hnb := inb hok whole more sum src dst body tail
  have hfl := iflags_lt (off := off.toNat) (by omega) whole more
  obtain ⟨f1, f2, f3⟩ := iflags_tell (off := off.toNat) (by omega) whole more
  have ht := ihead_tells (tos := tos.toNat) (len := 20 + body.size) (id := id.toNat) (fl := iflags off.toNat whole more) (ttl := ttl.toNat) (proto := proto.toNat) (sum := sum) (src := src) (dst := dst) (nb body ++ nb tail) (by omega) (by omega) (by omega) h4 h5 h6
  have hfull : nb (bs (ibytes tos id whole more off ttl proto sum src dst (nb body)) ++ tail) = ihead tos.toNat (20 + body.size) id.toNat (iflags off.toNat whole more) ttl.toNat proto.toNat sum src dst ++ (nb body ++ nb tail) := by
    rw [hnb]
    unfold ibytes
    rw [hb, List.append_assoc]
  have hz : (bs (ibytes tos id whole more off ttl proto sum src dst (nb body)) ++ tail).size = 20 + body.size + tail.size := by
    rw [ByteArray.size_append, bs_size, ibytes_len, hb]
  rw [← hfull] at ht
  obtain ⟨g0, g1, g2, g3, g4, g5, g6, g7, g8, g9⟩ := ht
  have t20 : (nb (bs (ibytes tos id whole more off ttl proto sum src dst (nb body)) ++ tail)).take 20 = ihead tos.toNat (20 + body.size) id.toNat (iflags off.toNat whole more) ttl.toNat proto.toNat sum src dst := by
    rw [hfull, List.take_append_of_le_length (by rw [ihead_len]; exact Nat.le_refl _), List.take_of_length_le (by rw [ihead_len]; exact Nat.le_refl _)]
  refine ⟨iwrong_zero (by omega) g0 (by rw [t20]; exact hs) (by omega) (by omega) (by omega), ?_⟩
  have hbody : (bs (ibytes tos id whole more off ttl proto sum src dst (nb body)) ++ tail).extract 20 (20 + body.size) = body := by
    apply nb_inj
    rw [nb_extract, hfull, ← List.append_assoc, List.take_append_of_le_length (by rw [List.length_append, ihead_len]; omega), List.take_of_length_le (by rw [List.length_append, ihead_len]; omega), List.drop_append_of_le_length (by rw [ihead_len]; exact Nat.le_refl _), List.drop_of_length_le (by rw [ihead_len]; exact Nat.le_refl _), List.nil_append]
  unfold iread
  rw [g1, g2, g3, g4, g5, g6, g8, g9, f1, f2, f3, hbody, Int.toNat_of_nonneg a0, Int.toNat_of_nonneg b0, Int.toNat_of_nonneg c0, Int.toNat_of_nonneg d0, Int.toNat_of_nonneg o0]
end Go.Proofs.YtbkgaplldfilnaaDoor.P
namespace Go.Proofs.YtbkgaplldfilnaaDoor.P
open Go Go.RowKit Go.Proofs.YtbkgaplldfilnaaDoorW.PrintWords Go.Proofs.YtbkgaplldfilnaaDoorW.PrintLast Go.Proofs.YtbkgaplldfilnaaDoorW.PrintMore Go.Proofs.YtbkgaplldfilnaaDoor.L

theorem i_nums {l : List Nat} (h : Byt l) : numAt l 2 2 < 65536 ∧ numAt l 4 2 < 65536 ∧ numAt l 6 2 < 65536 ∧ numAt l 8 2 < 65536 ∧ numAt l 10 2 < 65536 ∧ numAt l 12 4 < 4294967296 ∧ numAt l 16 4 < 4294967296 := by
  have e2 : (256 : Nat) ^ 2 = 65536 := by decide
  have e4 : (256 : Nat) ^ 4 = 4294967296 := by decide
  have h1 := numAt_lt h 2 2
  have h2 := numAt_lt h 4 2
  have h3 := numAt_lt h 6 2
  have h4 := numAt_lt h 8 2
  have h5 := numAt_lt h 10 2
  have h6 := numAt_lt h 12 4
  have h7 := numAt_lt h 16 4
  omega
theorem short_wrong {tos id off ttl proto : Int} {whole more : Bool} {sum src dst : Nat} {body : ByteArray} (hok : iok tos id off ttl proto body.size = true) (h4 : sum < 65536) (h5 : src < 4294967296) (h6 : dst < 4294967296)
    (hs : sumOk tos.toNat (20 + body.size) id.toNat (iflags off.toNat whole more) ttl.toNat proto.toNat sum src dst) {k : Nat} (hk : k < 20 + body.size) :
    iwrong ((bs (ibytes tos id whole more off ttl proto sum src dst (nb body))).extract 0 k) = 60 := by
  have hb := nb_len body
  obtain ⟨⟨a0, a1⟩, ⟨b0, b1⟩, ⟨c0, c1⟩, ⟨d0, d1⟩, ⟨o0, o1⟩, hn⟩ := iok_iff.1 hok
  have hfl := iflags_lt (off := off.toNat) (by omega) whole more
  have hby := ibytes_byt hok whole more sum src dst (nb_byt body)
  have hz : (bs (ibytes tos id whole more off ttl proto sum src dst (nb body))).size = 20 + body.size := by rw [bs_size, ibytes_len, hb]
  have hzk : ((bs (ibytes tos id whole more off ttl proto sum src dst (nb body))).extract 0 k).size = k := by
    rw [ByteArray.size_extract]
    omega
  unfold iwrong
  rw [hzk]
  by_cases h20 : k < 20
  · rw [if_pos h20]
  · rw [if_neg h20]
    have hnb : nb ((bs (ibytes tos id whole more off ttl proto sum src dst (nb body))).extract 0 k) = ihead tos.toNat (20 + body.size) id.toNat (iflags off.toNat whole more) ttl.toNat proto.toNat sum src dst ++ (nb body).take (k - 20) := by
      rw [nb_extract, nb_bs hby, List.drop_zero]
      unfold ibytes
      rw [hb, List.take_append, List.take_of_length_le (by rw [ihead_len]; omega), ihead_len]
    obtain ⟨g0, g1, g2, g3, g4, g5, g6, g7, g8, g9⟩ := ihead_tells (tos := tos.toNat) (len := 20 + body.size) (id := id.toNat) (fl := iflags off.toNat whole more) (ttl := ttl.toNat) (proto := proto.toNat) (sum := sum) (src := src) (dst := dst) ((nb body).take (k - 20)) (by omega) (by omega) (by omega) h4 h5 h6
    rw [← hnb] at g0 g2 g4
    have t20 : (nb ((bs (ibytes tos id whole more off ttl proto sum src dst (nb body))).extract 0 k)).take 20 = ihead tos.toNat (20 + body.size) id.toNat (iflags off.toNat whole more) ttl.toNat proto.toNat sum src dst := by
      rw [hnb, List.take_append_of_le_length (by rw [ihead_len]; exact Nat.le_refl _), List.take_of_length_le (by rw [ihead_len]; exact Nat.le_refl _)]
    rw [if_neg (fun h => h g0), if_neg (by rw [t20]; exact fun h => h hs), if_neg (by omega), if_neg (by omega), if_pos (by omega)]
end Go.Proofs.YtbkgaplldfilnaaDoor.P
namespace Go.Proofs.YtbkgaplldfilnaaDoor.P
set_option linter.unusedSimpArgs false
set_option linter.unusedVariables false
open Go Go.RowKit Go.Proofs.YtbkgaplldfilnaaDoorW.PrintWords Go.Proofs.YtbkgaplldfilnaaDoorW.PrintLast Go.Proofs.YtbkgaplldfilnaaDoorW.PrintMore Go.Proofs.YtbkgaplldfilnaaDoor.L

theorem below_eq (n top : Int) : inet_below.f n top = some (decide (0 ≤ n) && decide (n < top)) := by
  unfold inet_below.f
  by_cases h : n ≥ 0
  · rw [if_pos h, decide_eq_true (show 0 ≤ n from h), Bool.true_and]
  · rw [if_neg h, decide_eq_false (show ¬ 0 ≤ n from h), Bool.false_and]
theorem icheck_eq (tos id : Int) (whole more : Bool) (off ttl proto src dst : Int) (body : ByteArray) : inet_Check.f tos id whole more off ttl proto src dst body = some (if iok tos id off ttl proto body.size = true then 0 else 61) := by
  unfold inet_Check.f iok
  rw [below_eq, below_eq, below_eq, below_eq, below_eq]
  by_cases h1 : (decide (0 ≤ tos) && decide (tos < 256)) = true <;> by_cases h2 : (decide (0 ≤ ttl) && decide (ttl < 256)) = true <;> by_cases h3 : (decide (0 ≤ proto) && decide (proto < 256)) = true <;> by_cases h4 : (decide (0 ≤ id) && decide (id < 65536)) = true <;> by_cases h5 : (decide (0 ≤ off) && decide (off < 8192)) = true <;> by_cases h6 : body.size ≤ 65515 <;> simp only [h1, h2, h3, h4, h5, h6, Option.bind_some, if_true, Bool.true_and, Bool.and_true, decide_true, decide_false, Bool.false_and, Bool.and_false, Bool.false_eq_true, if_false, ite_true, ite_false, Bool.not_eq_true] <;> first | rfl | (rw [if_pos (by omega)]) | (rw [if_neg (by omega)])
theorem iword_ev {n : Nat} (h : n < 65536) : Ev (fun k => inet_word.f k (n : Int)) (bs (be 2 n)) := by
  unfold inet_word.f
  rw [u64w (by omega) (by omega)]
  exact Ev.bind (put_ev (n := 2) (by decide) (by decide) (by omega)) (ev_now rfl)
theorem iflags_eq {off : Nat} (h : off < 8192) (tos id : Int) (whole more : Bool) (ttl proto src dst : Int) (body : ByteArray) : inet_flags.f tos id whole more (off : Int) ttl proto src dst body = some ((iflags off whole more : Nat) : Int) := by
  have o14 : Go.bits .or .i64 (off : Int) 16384 = ((off + 16384 : Nat) : Int) := by
    rw [show (16384 : Int) = ((16384 : Nat) : Int) from rfl, or_comm64 (by omega) (by decide), or_join64 (x := 16384) (y := off) (i := 13) (by decide) (by decide) (by omega) (by decide), Nat.add_comm]
  have o13 : Go.bits .or .i64 (off : Int) 8192 = ((off + 8192 : Nat) : Int) := by
    rw [show (8192 : Int) = ((8192 : Nat) : Int) from rfl, or_comm64 (by omega) (by decide), or_join64 (x := 8192) (y := off) (i := 13) (by decide) (by decide) (by omega) (by decide), Nat.add_comm]
  have o27 : Go.bits .or .i64 ((off + 16384 : Nat) : Int) 8192 = ((off + 16384 + 8192 : Nat) : Int) := by
    have e1 : Go.bits .or .i64 ((off + 16384 : Nat) : Int) ((8192 : Nat) : Int) = (((off + 16384) ||| 8192 : Nat) : Int) := (bits_nat .i64 62 (by decide) wraps_i64 (off + 16384) 8192 (by omega) (by decide)).2
    have e2 : off + 16384 = 16384 ||| off := by
      have := Nat.two_pow_add_eq_or_of_lt (i := 14) (b := off) (by omega) 1
      rw [Nat.mul_one, show (2 : Nat) ^ 14 = 16384 from rfl] at this
      omega
    have e3 : 8192 ||| off = 8192 + off := by
      have := Nat.two_pow_add_eq_or_of_lt (i := 13) (b := off) (by omega) 1
      rw [Nat.mul_one, show (2 : Nat) ^ 13 = 8192 from rfl] at this
      omega
    have e4 : 16384 ||| (8192 + off) = 16384 + (8192 + off) := by
      have := Nat.two_pow_add_eq_or_of_lt (i := 14) (b := 8192 + off) (by omega) 1
      rw [Nat.mul_one, show (2 : Nat) ^ 14 = 16384 from rfl] at this
      omega
    rw [show (8192 : Int) = ((8192 : Nat) : Int) from rfl, e1, e2, Nat.or_assoc, Nat.or_comm off 8192, e3, e4, ← e2]
    omega
  unfold inet_flags.f iflags
  cases whole <;> cases more
  · rfl
  · rw [if_neg (by decide), if_pos rfl, o13]
    rfl
  · rw [if_pos rfl, if_neg (by decide), o14]
    rfl
  · rw [if_pos rfl, if_pos rfl, o14, o27]
    rfl
theorem pair_bs {x y : Int} (hx0 : 0 ≤ x) (hx : x < 256) (hy0 : 0 ≤ y) (hy : y < 256) : strOfNums [x % 256, y % 256] = bs [x.toNat, y.toNat] := by
  rw [nums_bs _ (by simp; omega)]
  congr 1
  simp
  omega
theorem inet_built (tos len id fl ttl proto src dst : Nat) (sum : Nat) (body : ByteArray) :
    bs [69, tos] ++ bs (be 2 len) ++ bs (be 2 id) ++ bs (be 2 fl) ++ bs [ttl, proto] ++ bs (be 2 sum) ++ (bs (be 4 src) ++ bs (be 4 dst)) ++ body = bs (ihead tos len id fl ttl proto sum src dst ++ nb body) := by
  rw [bs_append, bs_nb]
  unfold ihead ifront iends
  simp only [bs_append, ByteArray.append_assoc]
theorem ibuild_ev {src dst : Nat} (hs : src < 4294967296) (hd : dst < 4294967296) (tos id : Int) (whole more : Bool) (off ttl proto : Int) (body : ByteArray) :
    Ev (fun k => inet_Build.f k tos id whole more off ttl proto (src : Int) (dst : Int) body) (ibuild tos id whole more off ttl proto src dst body) := by
  unfold inet_Build.f ibuild
  rw [icheck_eq]
  by_cases hok : iok tos id off ttl proto body.size = true
  · rw [if_pos hok, if_pos hok]
    obtain ⟨⟨a0, a1⟩, ⟨b0, b1⟩, ⟨c0, c1⟩, ⟨d0, d1⟩, ⟨o0, o1⟩, hn⟩ := iok_iff.1 hok
    have hb := nb_len body
    have e4 : (256 : Nat) ^ 4 = 4294967296 := by decide
    refine ev_some (ev_pos rfl ?_)
    rw [u64w (x := (src : Int)) (by omega) (by omega), u64w (x := (dst : Int)) (by omega) (by omega)]
    refine Ev.bind (put_ev (n := 4) (by decide) (by decide) (by omega)) (Ev.bind (put_ev (n := 4) (by decide) (by decide) (by omega)) (ev_some ?_))
    dsimp only
    rw [show ([69, tos % 256] : List Int) = [69 % 256, tos % 256] from rfl, pair_bs (x := 69) (by decide) (by decide) a0 a1]
    have hlen : wrap64 (20 + (body.size : Int)) = ((20 + body.size : Nat) : Int) := by
      rw [w64 (by omega) (by omega)]
      omega
    rw [hlen]
    have z0 : (bs [(69 : Int).toNat, tos.toNat]).size = 2 := bs_size _
    have zb : ∀ n v : Nat, (bs (be n v)).size = n := fun n v => by rw [bs_size, be_len]
    refine Ev.bind (iword_ev (by omega)) (ev_pos (by rw [z0, zb]; decide) ?_)
    obtain ⟨idn, rfl⟩ := Int.eq_ofNat_of_zero_le d0
    obtain ⟨offn, rfl⟩ := Int.eq_ofNat_of_zero_le o0
    have hfl := iflags_lt (off := offn) (by omega) whole more
    refine Ev.bind (iword_ev (by omega)) (ev_pos (by rw [ByteArray.size_append, z0, zb, zb]; decide) ?_)
    rw [iflags_eq (by omega)]
    refine ev_some (Ev.bind (iword_ev (by omega)) (ev_pos (by rw [ByteArray.size_append, ByteArray.size_append, z0, zb, zb, zb]; decide) (ev_some ?_)))
    rw [pair_bs b0 b1 c0 c1]
    have z1 : (bs [ttl.toNat, proto.toNat]).size = 2 := bs_size _
    refine ev_pos (by simp only [ByteArray.size_append, z0, z1, zb]; decide) (ev_pos (by simp only [zb]; decide) ?_)
    refine Ev.bind (iword_ev (n := 0) (by decide)) ?_
    have hby := ihead_byt (tos := tos.toNat) (ttl := ttl.toNat) (proto := proto.toNat) (20 + body.size) idn (iflags offn whole more) 0 src dst (by omega) (by omega) (by omega)
    have hcat : cat [bs [(69 : Int).toNat, tos.toNat] ++ bs (be 2 (20 + body.size)) ++ bs (be 2 idn) ++ bs (be 2 (iflags offn whole more)) ++ bs [ttl.toNat, proto.toNat], bs (be 2 0), bs (be 4 src) ++ bs (be 4 dst)] = ihead tos.toNat (20 + body.size) idn (iflags offn whole more) ttl.toNat proto.toNat 0 src dst := by
      have q1 : Byt [(69 : Int).toNat, tos.toNat] := Byt.cons (by decide) (Byt.cons (by omega) Byt.nil)
      have q2 : Byt [ttl.toNat, proto.toNat] := Byt.cons (by omega) (Byt.cons (by omega) Byt.nil)
      rw [cat_three]
      simp only [nb_append, nb_bs q1, nb_bs q2, nb_bs (be_byt _ _)]
      unfold ihead ifront iends
      simp only [List.append_assoc]
      rfl
    refine Ev.bind (of_f_ev (by simp) (by rw [hcat, ihead_len]; decide)) ?_
    rw [hcat]
    have hsum : csumN (ihead tos.toNat (20 + body.size) idn (iflags offn whole more) ttl.toNat proto.toNat 0 src dst) = isum tos.toNat (20 + body.size) idn (iflags offn whole more) ttl.toNat proto.toNat src dst := rfl
    rw [hsum]
    have hlt := isum_lt tos.toNat (20 + body.size) idn (iflags offn whole more) ttl.toNat proto.toNat src dst
    refine Ev.bind (iword_ev hlt) (ev_pos (by simp only [ByteArray.size_append, z0, z1, zb]; decide) (ev_pos (by simp only [ByteArray.size_append, z0, z1, zb]; decide) (ev_pos (by simp only [ByteArray.size_append, z0, z1, zb]; omega) (ev_now ?_))))
    rw [show (69 : Int).toNat = 69 from rfl, inet_built]
    unfold ibytes itold
    rw [hb, Int.toNat_natCast, Int.toNat_natCast]
  · rw [if_neg hok, if_neg hok]
    exact ev_some (ev_neg (by decide) (ev_now rfl))
theorem two_at {l : List Nat} {i : Nat} (h : i + 1 < l.length) : numAt l i 2 = l.getD i 0 * 256 + l.getD (i + 1) 0 := by
  unfold numAt
  rw [drop_two h]
  simp [num]
theorem iget_eq {s : ByteArray} {i : Nat} (h : i + 1 < s.size) (hs : s.size ≤ 1000000) : inet_get.f s (i : Int) = some ((numAt (nb s) i 2 : Nat) : Int) := by
  have hl := nb_len s
  have h1 := getD_byt (nb_byt s) i
  have h2 := getD_byt (nb_byt s) (i + 1)
  unfold inet_get.f
  rw [if_pos (by omega), if_pos (by omega), w64 (x := (i : Int) + 1) (by omega) (by omega), if_pos (by omega), if_pos (by omega), two_at (by omega)]
  have b1 : bt s (i : Int) = (((nb s).getD i 0 : Nat) : Int) := by rw [bt_nb, Int.toNat_natCast]
  have b2 : bt s ((i : Int) + 1) = (((nb s).getD (i + 1) 0 : Nat) : Int) := by rw [bt_nb]; rfl
  rw [b1, b2, w64 (x := (((nb s).getD i 0 : Nat) : Int)) (by omega) (by omega), w64 (x := (((nb s).getD (i + 1) 0 : Nat) : Int)) (by omega) (by omega), w64 (x := (((nb s).getD i 0 : Nat) : Int) * 256) (by omega) (by omega)]
  congr 1
  have := or_join64 (x := (nb s).getD i 0 * 256) (y := (nb s).getD (i + 1) 0) (i := 8) (by omega) (by omega) (by omega) (by decide)
  rw [← this]
  rfl
theorem bt_at_nb (s : ByteArray) (i : Nat) : bt s (i : Int) = (((nb s).getD i 0 : Nat) : Int) := by rw [bt_nb, Int.toNat_natCast]
theorem bit_test {f i : Nat} (hf : f < 65536) (hi : i ≤ 15) {c : Int} (hc : c = ((2 ^ i : Nat) : Int)) : ((Go.bits .and .i64 (f : Int) c) != 0) = decide (f / 2 ^ i % 2 = 1) := by
  rw [hc, and_bit64 hf hi, Bool.eq_iff_iff, bne_iff_ne, decide_eq_true_eq]
  have hp : 0 < 2 ^ i := Nat.two_pow_pos i
  have h2 : f / 2 ^ i % 2 = 0 ∨ f / 2 ^ i % 2 = 1 := by omega
  rcases h2 with h2 | h2 <;> rw [h2] <;> omega
theorem iread_j0 {s : ByteArray} (hs : s.size ≤ 1000000) (h20 : 20 ≤ s.size) (hn : 20 ≤ numAt (nb s) 2 2) (hf : numAt (nb s) 6 2 < 65536) (b : Bool) :
    Ev (fun k => inet_read.j0 k s ((numAt (nb s) 2 2 : Nat) : Int) ((numAt (nb s) 6 2 : Nat) : Int) b) (if b = true then (0, 0, false, false, 0, 0, 0, 0, 0, (⟨#[]⟩ : ByteArray), some 61) else if s.size < numAt (nb s) 2 2 then (0, 0, false, false, 0, 0, 0, 0, 0, (⟨#[]⟩ : ByteArray), some 60)
      else ((((nb s).getD 1 0 : Nat) : Int), ((numAt (nb s) 4 2 : Nat) : Int), decide (numAt (nb s) 6 2 / 16384 % 2 = 1), decide (numAt (nb s) 6 2 / 8192 % 2 = 1), ((numAt (nb s) 6 2 % 8192 : Nat) : Int), (((nb s).getD 8 0 : Nat) : Int), (((nb s).getD 9 0 : Nat) : Int), ((numAt (nb s) 12 4 : Nat) : Int), ((numAt (nb s) 16 4 : Nat) : Int), s.extract 20 (numAt (nb s) 2 2), none)) := by
  refine ev_succ ?_
  simp only [inet_read.j0]
  by_cases hb : b = true
  · rw [if_pos hb]
    exact ev_pos hb (ev_now rfl)
  · rw [if_neg hb]
    refine ev_neg hb ?_
    by_cases hz : s.size < numAt (nb s) 2 2
    · rw [if_pos hz]
      exact ev_pos (by omega) (ev_now rfl)
    · rw [if_neg hz]
      refine ev_neg (by omega) ?_
      have l1 := numAt_lt (nb_byt s) 12 4
      have l2 := numAt_lt (nb_byt s) 16 4
      have e4 : (256 : Nat) ^ 4 = 4294967296 := by decide
      have g1 := getD_byt (nb_byt s) 1
      have g8 := getD_byt (nb_byt s) 8
      have g9 := getD_byt (nb_byt s) 9
      refine Ev.bind (get_ev (s := s) (i := 12) (n := 4) (by decide) (by decide) (by omega) (by omega)) (Ev.bind (get_ev (s := s) (i := 16) (n := 4) (by decide) (by decide) (by omega) (by omega)) (ev_pos (by omega) ?_))
      have e := iget_eq (s := s) (i := 4) (by omega) hs
      refine Ev.bind (ev_known e) (ev_pos (by omega) (ev_pos (by omega) (ev_pos (by omega) (ev_pos (by omega) (ev_now ?_)))))
      have b1 : bt s 1 = (((nb s).getD 1 0 : Nat) : Int) := bt_at_nb s 1
      have b8 : bt s 8 = (((nb s).getD 8 0 : Nat) : Int) := bt_at_nb s 8
      have b9 : bt s 9 = (((nb s).getD 9 0 : Nat) : Int) := bt_at_nb s 9
      have t14 := bit_test (f := numAt (nb s) 6 2) (i := 14) hf (by decide) (c := 16384) rfl
      have t13 := bit_test (f := numAt (nb s) 6 2) (i := 13) hf (by decide) (c := 8192) rfl
      rw [show (2 : Nat) ^ 14 = 16384 from rfl] at t14
      rw [show (2 : Nat) ^ 13 = 8192 from rfl] at t13
      dsimp only
      rw [b1, b8, b9, w64 (x := (((nb s).getD 1 0 : Nat) : Int)) (by omega) (by omega), w64 (x := (((nb s).getD 8 0 : Nat) : Int)) (by omega) (by omega), w64 (x := (((nb s).getD 9 0 : Nat) : Int)) (by omega) (by omega), t14, t13]
      have m1 : ((numAt (nb s) 12 4 : Nat) : Int) % 4294967296 = ((numAt (nb s) 12 4 : Nat) : Int) := by omega
      have m2 : ((numAt (nb s) 16 4 : Nat) : Int) % 4294967296 = ((numAt (nb s) 16 4 : Nat) : Int) := by omega
      have m3 : ((numAt (nb s) 6 2 : Nat) : Int).tmod 8192 = ((numAt (nb s) 6 2 % 8192 : Nat) : Int) := by
        rw [Int.tmod_eq_emod_of_nonneg (by omega)]
        omega
      rw [m1, m2, m3, Int.toNat_natCast]
theorem iparse_ev {s : ByteArray} (hs : s.size ≤ 1000000) : Ev (fun k => inet_Parse.f k s) (iparse s) := by
  have hl := nb_len s
  unfold inet_Parse.f
  have bad : ∀ c : Int, Ev (fun k => inet_read.f k s) (0, 0, false, false, 0, 0, 0, 0, 0, (⟨#[]⟩ : ByteArray), some c) → iwrong s = c → c ≠ 0 → Ev (fun k => (inet_read.f k s).bind fun bt182 => (if bt182.2.2.2.2.2.2.2.2.2.2.isNone = true then (some (bt182.1, bt182.2.1, bt182.2.2.1, bt182.2.2.2.1, bt182.2.2.2.2.1, bt182.2.2.2.2.2.1, bt182.2.2.2.2.2.2.1, bt182.2.2.2.2.2.2.2.1, bt182.2.2.2.2.2.2.2.2.1, bt182.2.2.2.2.2.2.2.2.2.1, 0)) else ((inet_number.f (some (bt182.2.2.2.2.2.2.2.2.2.2.getD 0))).bind fun t195 => (some (0, 0, false, false, 0, 0, 0, 0, 0, (⟨#[]⟩ : ByteArray), t195))))) (iparse s) := by
    intro c hr hw hc
    refine Ev.bind hr (ev_neg (by simp) ?_)
    unfold iparse ibad
    have hn : inet_number.f (some c) = some c := by
      rcases iwrong_cases s with h | h | h | h <;> rw [hw] at h <;> subst h <;> first | (exact absurd rfl hc) | rfl
    rw [if_neg (by omega), hw]
    exact Ev.bind (ev_known hn) (ev_now rfl)
  by_cases h1 : s.size < 20
  · have hw : iwrong s = 60 := by
      unfold iwrong
      rw [if_pos h1]
    refine bad 60 ?_ hw (by decide)
    unfold inet_read.f
    exact ev_pos (by omega) (ev_now rfl)
  have b0 : bt s 0 = (((nb s).getD 0 0 : Nat) : Int) := bt_at_nb s 0
  by_cases h2 : (nb s).getD 0 0 ≠ 69
  · have hw : iwrong s = 61 := by
      unfold iwrong
      rw [if_neg h1, if_pos h2]
    refine bad 61 ?_ hw (by decide)
    unfold inet_read.f
    rw [b0]
    exact ev_neg (by omega) (ev_pos (by omega) (ev_neg (by omega) (ev_now rfl)))
  have hcat : cat [s.extract 0 20] = (nb s).take 20 := by rw [cat_one, nb_extract, List.drop_zero]
  have hright := right_f_ev (l := [s.extract 0 20]) (by simp) (by rw [hcat, List.length_take]; omega)
  rw [hcat] at hright
  by_cases h3 : foldN (wsum ((nb s).take 20)) ≠ 65535
  · have hw : iwrong s = 62 := by
      unfold iwrong
      rw [if_neg h1, if_neg h2, if_pos h3]
    refine bad 62 ?_ hw (by decide)
    unfold inet_read.f
    rw [b0]
    refine ev_neg (by omega) (ev_pos (by omega) (ev_pos (by omega) (ev_pos (by decide) (ev_pos (by omega) (Ev.bind hright (ev_neg ?_ (ev_now rfl)))))))
    rw [decide_eq_true_eq]
    exact h3
  have hn := numAt_lt (nb_byt s) 2 2
  have hf := numAt_lt (nb_byt s) 6 2
  have e2 : (256 : Nat) ^ 2 = 65536 := by decide
  have g2 := iget_eq (s := s) (i := 2) (by omega) hs
  have g6 := iget_eq (s := s) (i := 6) (by omega) hs
  have go : ∀ r, (numAt (nb s) 2 2 < 20 → Ev (fun k => inet_read.j0 k s ((numAt (nb s) 2 2 : Nat) : Int) ((numAt (nb s) 6 2 : Nat) : Int) true) r) → (¬ numAt (nb s) 2 2 < 20 → Ev (fun k => inet_read.j0 k s ((numAt (nb s) 2 2 : Nat) : Int) ((numAt (nb s) 6 2 : Nat) : Int) (decide (numAt (nb s) 6 2 / 32768 % 2 = 1))) r) → Ev (fun k => inet_read.f k s) r := by
    intro r q1 q2
    unfold inet_read.f
    rw [b0]
    refine ev_neg (by omega) (ev_pos (by omega) (ev_pos (by omega) (ev_pos (by decide) (ev_pos (by omega) (Ev.bind hright (ev_pos ?_ ?_))))))
    · rw [decide_eq_true_eq]
      exact Decidable.not_not.1 h3
    · refine Ev.bind (ev_known g2) (Ev.bind (ev_known g6) ?_)
      have t15 := bit_test (f := numAt (nb s) 6 2) (i := 15) (by omega) (by decide) (c := 32768) rfl
      rw [show (2 : Nat) ^ 15 = 32768 from rfl] at t15
      by_cases h4 : numAt (nb s) 2 2 < 20
      · exact ev_pos (by omega) (q1 h4)
      · rw [t15]
        exact ev_neg (by omega) (q2 h4)
  by_cases h4 : numAt (nb s) 2 2 < 20
  · have hw : iwrong s = 61 := by
      unfold iwrong
      rw [if_neg h1, if_neg h2, if_neg h3, if_pos h4]
    refine bad 61 (go _ (fun _ => ?_) (fun h => absurd h4 h)) hw (by decide)
    refine ev_succ ?_
    simp only [inet_read.j0]
    exact ev_pos trivial (ev_now rfl)
  have hj := iread_j0 (s := s) hs (by omega) (by omega) (by omega) (decide (numAt (nb s) 6 2 / 32768 % 2 = 1))
  by_cases h5 : 32768 ≤ numAt (nb s) 6 2
  · have hw : iwrong s = 61 := by
      unfold iwrong
      rw [if_neg h1, if_neg h2, if_neg h3, if_neg h4, if_pos h5]
    refine bad 61 (go _ (fun h => absurd h h4) (fun _ => ?_)) hw (by decide)
    rw [if_pos (decide_eq_true (by omega))] at hj
    exact hj
  rw [if_neg (by rw [decide_eq_true_eq]; omega)] at hj
  by_cases h6 : s.size < numAt (nb s) 2 2
  · have hw : iwrong s = 60 := by
      unfold iwrong
      rw [if_neg h1, if_neg h2, if_neg h3, if_neg h4, if_neg h5, if_pos h6]
    refine bad 60 (go _ (fun h => absurd h h4) (fun _ => ?_)) hw (by decide)
    rw [if_pos h6] at hj
    exact hj
  have hw : iwrong s = 0 := by
    unfold iwrong
    rw [if_neg h1, if_neg h2, if_neg h3, if_neg h4, if_neg h5, if_neg h6]
  rw [if_neg h6] at hj
  refine Ev.bind (go _ (fun h => absurd h h4) (fun _ => hj)) (ev_pos rfl (ev_now ?_))
  unfold iparse iread
  rw [if_pos hw]
theorem ipart_eq (tos id : Int) (whole more : Bool) (off ttl proto src dst : Int) (body : ByteArray) : inet_Part.f tos id whole more off ttl proto src dst body = some (more || decide (0 < off)) := by
  unfold inet_Part.f
  cases more
  · rw [if_neg (by decide)]
    rfl
  · rw [if_pos rfl]
    rfl
end Go.Proofs.YtbkgaplldfilnaaDoor.P
namespace Go.Proofs.YtbkgaplldfilnaaDoor.P
open Go Go.RowKit Go.Proofs.YtbkgaplldfilnaaDoorW.PrintWords Go.Proofs.YtbkgaplldfilnaaDoorW.PrintLast Go.Proofs.YtbkgaplldfilnaaDoorW.PrintMore Go.Proofs.YtbkgaplldfilnaaDoor.L

def uok (src dst : Int) (body : ByteArray) : Bool := decide (0 ≤ src) && decide (src < 65536) && (decide (0 ≤ dst) && decide (dst < 65536)) && decide (body.size ≤ 65507)
theorem check_eq (src dst : Int) (nosum : Bool) (body : ByteArray) : udp_Check.f src dst nosum body = some (if uok src dst body = true then 0 else 71) := by
  unfold udp_Check.f udp_pt_ uok
  by_cases h1 : 0 ≤ src <;> by_cases h2 : src < 65536 <;> by_cases h3 : 0 ≤ dst <;> by_cases h4 : dst < 65536 <;> by_cases h5 : body.size ≤ 65507 <;> simp [h1, h2, h3, h4, h5]
theorem uok_iff {src dst : Int} {body : ByteArray} : uok src dst body = true ↔ (0 ≤ src ∧ src < 65536) ∧ (0 ≤ dst ∧ dst < 65536) ∧ body.size ≤ 65507 := by
  unfold uok
  simp
  omega
theorem word_ev {n : Nat} (h : n < 65536) : Ev (fun k => udp_word.f k (n : Int)) (bs (be 2 n)) := by
  unfold udp_word.f
  rw [u64w (by omega) (by omega)]
  exact Ev.bind (put_ev (n := 2) (by decide) (by decide) (by omega)) (ev_now rfl)
def uhead (src dst n : Nat) : List Nat := be 2 src ++ be 2 dst ++ be 2 n
theorem uhead_len (src dst n : Nat) : (uhead src dst n).length = 6 := by simp [uhead, be_len]
theorem uhead_byt (src dst n : Nat) : Byt (uhead src dst n) := ((be_byt _ _).append (be_byt _ _)).append (be_byt _ _)
def usum (a b src dst : Nat) (body : List Nat) : Nat :=
  if csumN (headL a b 17 ((body.length + 8 : Nat) : Int) ++ (uhead src dst (body.length + 8) ++ body)) = 0 then 65535 else csumN (headL a b 17 ((body.length + 8 : Nat) : Int) ++ (uhead src dst (body.length + 8) ++ body))
theorem csumN_le (l : List Nat) : csumN l ≤ 65535 := by
  unfold csumN
  omega
theorem usum_bound (a b src dst : Nat) (body : List Nat) : 1 ≤ usum a b src dst body ∧ usum a b src dst body ≤ 65535 := by
  unfold usum
  have := csumN_le (headL a b 17 ((body.length + 8 : Nat) : Int) ++ (uhead src dst (body.length + 8) ++ body))
  split <;> omega
def ubytes (a b src dst : Nat) (nosum : Bool) (body : List Nat) : List Nat := uhead src dst (body.length + 8) ++ (be 2 (if nosum = true then 0 else usum a b src dst body) ++ body)
theorem ubytes_byt {a b src dst : Nat} {nosum : Bool} {body : List Nat} (h : Byt body) : Byt (ubytes a b src dst nosum body) := (uhead_byt _ _ _).append ((be_byt _ _).append h)
theorem ubytes_len (a b src dst : Nat) (nosum : Bool) (body : List Nat) : (ubytes a b src dst nosum body).length = body.length + 8 := by
  unfold ubytes
  rw [List.length_append, List.length_append, uhead_len, be_len]
  omega
def ubuild (a b : Nat) (src dst : Int) (nosum : Bool) (body : ByteArray) : ByteArray × Int :=
  if uok src dst body = true then (bs (ubytes a b src.toNat dst.toNat nosum (nb body)), 0) else ((⟨#[]⟩ : ByteArray), 71)
theorem ubs_eq (src dst n x : Nat) (body : ByteArray) : bs (be 2 src) ++ bs (be 2 dst) ++ bs (be 2 n) ++ bs (be 2 x) ++ body = bs (uhead src dst n ++ (be 2 x ++ nb body)) := by
  apply nb_inj
  rw [nb_bs ((uhead_byt _ _ _).append ((be_byt _ _).append (nb_byt body)))]
  simp only [nb_append, nb_bs (be_byt _ _), uhead, List.append_assoc]
theorem build_ev {a b : Nat} (ha : a < 4294967296) (hb : b < 4294967296) (src dst : Int) (nosum : Bool) (body : ByteArray) :
    Ev (fun k => udp_Build.f k (a : Int) (b : Int) src dst nosum body) (ubuild a b src dst nosum body) := by
  unfold udp_Build.f ubuild
  rw [check_eq]
  by_cases hok : uok src dst body = true
  · rw [if_pos hok, if_pos hok]
    refine ev_some (ev_pos rfl ?_)
    obtain ⟨⟨h1, h2⟩, ⟨h3, h4⟩, h5⟩ := uok_iff.1 hok
    obtain ⟨s, rfl⟩ := Int.eq_ofNat_of_zero_le h1
    obtain ⟨d, rfl⟩ := Int.eq_ofNat_of_zero_le h3
    have hl := nb_len body
    have hn : wrap64 (8 + (body.size : Int)) = ((body.size + 8 : Nat) : Int) := by
      rw [w64 (by omega) (by omega)]
      omega
    rw [hn]
    have z3 : (bs (be 2 s) ++ bs (be 2 d) ++ bs (be 2 (body.size + 8))).size = 6 := by simp [ByteArray.size_append, bs_size, be_len]
    have hu := usum_bound a b s d (nb body)
    have fin : ∀ x : Nat, Ev (fun _ : Nat => if (bs (be 2 s) ++ bs (be 2 d) ++ bs (be 2 (body.size + 8))).size + (bs (be 2 x)).size ≤ 9223372036854775807 then (if (bs (be 2 s) ++ bs (be 2 d) ++ bs (be 2 (body.size + 8)) ++ bs (be 2 x)).size + body.size ≤ 9223372036854775807 then some (bs (be 2 s) ++ bs (be 2 d) ++ bs (be 2 (body.size + 8)) ++ bs (be 2 x) ++ body, (0 : Int)) else none) else none) (bs (uhead s d (body.size + 8) ++ (be 2 x ++ nb body)), 0) := by
      intro x
      refine ev_pos (by rw [z3, bs_size, be_len]; decide) (ev_pos (by rw [ByteArray.size_append, z3, bs_size, be_len]; omega) (ev_now ?_))
      rw [ubs_eq]
    refine Ev.bind (word_ev (by omega)) (Ev.bind (word_ev (by omega)) (ev_pos (by simp [bs_size, be_len]) ?_))
    refine Ev.bind (word_ev (by omega)) (ev_pos (by simp [ByteArray.size_append, bs_size, be_len]) ?_)
    simp only [Int.toNat_natCast]
    unfold ubytes
    rw [hl]
    cases nosum with
    | true =>
      refine ev_pos rfl ?_
      rw [if_pos rfl]
      exact Ev.bind (word_ev (n := 0) (by omega)) (fin 0)
    | false =>
      refine ev_neg (by decide) ?_
      rw [if_neg (by decide)]
      refine Ev.bind (head_f_ev ha hb 17 _) ?_
      have c3 : cat [bs (headL a b 17 ((body.size + 8 : Nat) : Int)), bs (be 2 s) ++ bs (be 2 d) ++ bs (be 2 (body.size + 8)), body] = headL a b 17 (((nb body).length + 8 : Nat) : Int) ++ (uhead s d ((nb body).length + 8) ++ nb body) := by
        rw [cat_three, nb_bs (headL_byt _ _ _ _), nb_append, nb_append, nb_bs (be_byt _ _), nb_bs (be_byt _ _), nb_bs (be_byt _ _), hl]
        rfl
      have l3 : (cat [bs (headL a b 17 ((body.size + 8 : Nat) : Int)), bs (be 2 s) ++ bs (be 2 d) ++ bs (be 2 (body.size + 8)), body]).length ≤ 1099511627775 := by
        rw [c3, List.length_append, List.length_append, headL_len, uhead_len]
        omega
      refine Ev.bind (of_f_ev (by simp) l3) ?_
      rw [c3]
      have hc := csumN_le (headL a b 17 (((nb body).length + 8 : Nat) : Int) ++ (uhead s d ((nb body).length + 8) ++ nb body))
      unfold usum
      generalize csumN (headL a b 17 (((nb body).length + 8 : Nat) : Int) ++ (uhead s d ((nb body).length + 8) ++ nb body)) = c at *
      by_cases h0 : c = 0
      · rw [if_pos h0]
        exact ev_pos (by omega) (Ev.bind (word_ev (n := 65535) (by omega)) (fin 65535))
      · rw [if_neg h0]
        exact ev_neg (by omega) (Ev.bind (word_ev (by omega)) (fin c))
  · rw [if_neg hok, if_neg hok]
    exact ev_some (ev_neg (by decide) (ev_now rfl))
def uparse (a b : Nat) (s : ByteArray) : Int × Int × Bool × ByteArray × Int :=
  if s.size < 8 then (0, 0, false, (⟨#[]⟩ : ByteArray), 70)
  else if numAt (nb s) 4 2 < 8 then (0, 0, false, (⟨#[]⟩ : ByteArray), 71)
  else if s.size < numAt (nb s) 4 2 then (0, 0, false, (⟨#[]⟩ : ByteArray), 70)
  else if numAt (nb s) 6 2 ≠ 0 ∧ foldN (wsum (headL a b 17 ((numAt (nb s) 4 2 : Nat) : Int) ++ (nb s).take (numAt (nb s) 4 2))) ≠ 65535 then (0, 0, false, (⟨#[]⟩ : ByteArray), 72)
  else (((numAt (nb s) 0 2 : Nat) : Int), ((numAt (nb s) 2 2 : Nat) : Int), decide (numAt (nb s) 6 2 = 0), s.extract 8 (numAt (nb s) 4 2), 0)
theorem two_zero {s : ByteArray} (h : 8 ≤ s.size) : ((s.extract 6 8).toList == ([0, 0] : List UInt8)) = decide (numAt (nb s) 6 2 = 0) := by
  have hl := nb_len s
  have hby := nb_byt s
  have e1 : nb (s.extract 6 8) = ((nb s).drop 6).take 2 := by rw [nb_extract, List.drop_take]
  have e2 : ((nb s).drop 6).take 2 = [(nb s).getD 6 0, (nb s).getD 7 0] := by
    rw [drop_two (by omega)]
    rfl
  have e3 : numAt (nb s) 6 2 = (nb s).getD 6 0 * 256 + (nb s).getD 7 0 := by
    unfold numAt
    rw [e2]
    simp [num]
  have e4 : (s.extract 6 8).toList = [0, 0] ↔ nb (s.extract 6 8) = [0, 0] := by
    rw [ByteArray.toList_eq]
    constructor
    · intro h
      unfold nb
      rw [h]
      rfl
    · intro h
      have : s.extract 6 8 = (⟨#[0, 0]⟩ : ByteArray) := nb_inj (by rw [h]; rfl)
      rw [this]
  rw [Bool.eq_iff_iff, beq_iff_eq, decide_eq_true_eq, e4, e1, e2, e3]
  simp
  omega
theorem wrong_ev {a b : Nat} (ha : a < 4294967296) (hb : b < 4294967296) {s : ByteArray} (hs : s.size ≤ 1000000) :
    Ev (fun k => udp_wrong.f k (a : Int) (b : Int) s) (if s.size < 8 then (0, 0) else if numAt (nb s) 4 2 < 8 then (1, 0) else if s.size < numAt (nb s) 4 2 then (2, 0) else if numAt (nb s) 6 2 ≠ 0 ∧ foldN (wsum (headL a b 17 ((numAt (nb s) 4 2 : Nat) : Int) ++ (nb s).take (numAt (nb s) 4 2))) ≠ 65535 then (3, 0) else (4, ((numAt (nb s) 4 2 : Nat) : Int))) := by
  have hl := nb_len s
  have hby := nb_byt s
  unfold udp_wrong.f
  by_cases h0 : s.size < 8
  · rw [if_pos h0]
    exact ev_pos (by omega) (ev_now rfl)
  · rw [if_neg h0]
    refine ev_neg (by omega) ?_
    have g1 := get_ev (s := s) (i := 4) (n := 2) (by decide) (by decide) (by omega) (by omega)
    have g2 := get_ev (s := s) (i := 6) (n := 2) (by decide) (by decide) (by omega) (by omega)
    refine Ev.bind g1 (Ev.bind g2 ?_)
    have hn := numAt_lt hby 4 2
    have hm := numAt_lt hby 6 2
    have h256 : (256 : Nat) ^ 2 = 65536 := by decide
    dsimp only
    generalize numAt (nb s) 4 2 = n at *
    generalize numAt (nb s) 6 2 = m at *
    rw [w64 (x := (n : Int)) (by omega) (by omega)]
    by_cases h1 : n < 8
    · rw [if_pos h1]
      exact ev_pos (by omega) (ev_now rfl)
    · rw [if_neg h1]
      refine ev_neg (by omega) ?_
      by_cases h2 : s.size < n
      · rw [if_pos h2]
        exact ev_pos (by omega) (ev_now rfl)
      · rw [if_neg h2]
        refine ev_neg (by omega) ?_
        by_cases h3 : m = 0
        · rw [if_neg (by omega)]
          exact ev_pos (by omega) (ev_now rfl)
        · refine ev_neg (by omega) (Ev.bind (head_f_ev ha hb 17 _) (ev_pos (by omega) (ev_pos (by omega) ?_)))
          have c2 : cat [bs (headL a b 17 (n : Int)), s.extract 0 (n : Int).toNat] = headL a b 17 (n : Int) ++ (nb s).take n := by
            rw [cat_two, nb_bs (headL_byt _ _ _ _), nb_extract, List.drop_zero, Int.toNat_natCast]
          refine Ev.bind (right_f_ev (by simp) (by rw [c2, List.length_append, headL_len, List.length_take]; omega)) ?_
          rw [c2]
          by_cases h4 : foldN (wsum (headL a b 17 (n : Int) ++ (nb s).take n)) = 65535
          · have hcond : ¬ (m ≠ 0 ∧ foldN (wsum (headL a b 17 (n : Int) ++ (nb s).take n)) ≠ 65535) := fun h => h.2 h4
            rw [if_neg hcond]
            exact ev_pos (decide_eq_true h4) (ev_now rfl)
          · have hcond : m ≠ 0 ∧ foldN (wsum (headL a b 17 (n : Int) ++ (nb s).take n)) ≠ 65535 := ⟨h3, h4⟩
            rw [if_pos hcond]
            exact ev_neg (fun h => h4 (of_decide_eq_true h)) (ev_now rfl)
theorem parse_ev {a b : Nat} (ha : a < 4294967296) (hb : b < 4294967296) {s : ByteArray} (hs : s.size ≤ 1000000) : Ev (fun k => udp_Parse.f k (a : Int) (b : Int) s) (uparse a b s) := by
  have hl := nb_len s
  have hby := nb_byt s
  unfold udp_Parse.f uparse
  refine Ev.bind (wrong_ev ha hb hs) ?_
  by_cases h0 : s.size < 8
  · rw [if_pos h0, if_pos h0]
    exact ev_pos rfl (ev_now rfl)
  · rw [if_neg h0, if_neg h0]
    by_cases h1 : numAt (nb s) 4 2 < 8
    · rw [if_pos h1, if_pos h1]
      exact ev_neg (by decide) (ev_neg (by decide) (ev_pos rfl (ev_now rfl)))
    · rw [if_neg h1, if_neg h1]
      by_cases h2 : s.size < numAt (nb s) 4 2
      · rw [if_pos h2, if_pos h2]
        exact ev_neg (by decide) (ev_pos rfl (ev_now rfl))
      · rw [if_neg h2, if_neg h2]
        by_cases h3 : numAt (nb s) 6 2 ≠ 0 ∧ foldN (wsum (headL a b 17 ((numAt (nb s) 4 2 : Nat) : Int) ++ (nb s).take (numAt (nb s) 4 2))) ≠ 65535
        · rw [if_pos h3, if_pos h3]
          exact ev_neg (by decide) (ev_neg (by decide) (ev_neg (by decide) (ev_pos rfl (ev_now rfl))))
        · rw [if_neg h3, if_neg h3]
          refine ev_neg (by dsimp only; decide) (ev_neg (by dsimp only; decide) (ev_neg (by dsimp only; decide) (ev_neg (by dsimp only; decide) ?_)))
          have g1 := get_ev (s := s) (i := 0) (n := 2) (by decide) (by decide) (by omega) (by omega)
          have g2 := get_ev (s := s) (i := 2) (n := 2) (by decide) (by decide) (by omega) (by omega)
          have hx := numAt_lt hby 0 2
          have hy := numAt_lt hby 2 2
          have h256 : (256 : Nat) ^ 2 = 65536 := by decide
          refine Ev.bind g1 (Ev.bind g2 (ev_pos (by decide) (ev_pos (by omega) (ev_pos (by dsimp only; omega) (ev_pos (by dsimp only; omega) (ev_now ?_))))))
          dsimp only
          rw [w64 (by omega) (by omega), w64 (by omega) (by omega), two_zero (by omega), Int.toNat_natCast]
end Go.Proofs.YtbkgaplldfilnaaDoor.P
namespace Go.Proofs.YtbkgaplldfilnaaDoor.P
open Go Go.RowKit Go.Proofs.YtbkgaplldfilnaaDoorW.PrintWords Go.Proofs.YtbkgaplldfilnaaDoorW.PrintLast Go.Proofs.YtbkgaplldfilnaaDoorW.PrintMore Go.Proofs.YtbkgaplldfilnaaDoor.L

theorem numAt_be {p : List Nat} (q : List Nat) {n v i : Nat} (hp : p.length = i) (hv : v < 256 ^ n) : numAt (p ++ (be n v ++ q)) i n = v := by
  unfold numAt
  rw [List.drop_append_of_le_length (by rw [hp]; exact Nat.le_refl _), List.drop_of_length_le (by rw [hp]; exact Nat.le_refl _), List.nil_append, List.take_append_of_le_length (by rw [be_len]; exact Nat.le_refl _), List.take_of_length_le (by rw [be_len]; exact Nat.le_refl _), num_be]
  exact Nat.mod_eq_of_lt hv
theorem wsum_two {x : Nat} (h : x < 65536) : wsum (be 2 x) = x := by
  simp only [be, List.nil_append, List.cons_append, wsum]
  omega
def told (a b s d : Nat) (nosum : Bool) (body : List Nat) : Nat := if nosum = true then 0 else usum a b s d body
theorem told_false (a b s d : Nat) (body : List Nat) : told a b s d false body = usum a b s d body := by
  unfold told
  rw [if_neg (by decide)]
theorem told_lt (a b s d : Nat) (nosum : Bool) (body : List Nat) : told a b s d nosum body < 65536 := by
  have := usum_bound a b s d body
  unfold told
  split <;> omega
theorem built_size (a b s d : Nat) (nosum : Bool) (body more : ByteArray) : (bs (ubytes a b s d nosum (nb body)) ++ more).size = body.size + 8 + more.size := by
  rw [ByteArray.size_append, bs_size, ubytes_len, nb_len]
theorem built_nb (a b s d : Nat) (nosum : Bool) (body more : ByteArray) : nb (bs (ubytes a b s d nosum (nb body)) ++ more) = ubytes a b s d nosum (nb body) ++ nb more := by
  rw [nb_append, nb_bs (ubytes_byt (nb_byt body))]
theorem ubytes_flat (a b s d : Nat) (nosum : Bool) (body more : List Nat) : ubytes a b s d nosum body ++ more = be 2 s ++ (be 2 d ++ (be 2 (body.length + 8) ++ (be 2 (told a b s d nosum body) ++ (body ++ more)))) := by
  unfold ubytes uhead told
  simp only [List.append_assoc]
theorem built_at0 {a b s d : Nat} {nosum : Bool} {body more : List Nat} (hs : s < 65536) : numAt (ubytes a b s d nosum body ++ more) 0 2 = s := by
  rw [ubytes_flat]
  exact numAt_be (p := []) _ rfl (by omega)
theorem built_at2 {a b s d : Nat} {nosum : Bool} {body more : List Nat} (hd : d < 65536) : numAt (ubytes a b s d nosum body ++ more) 2 2 = d := by
  rw [ubytes_flat]
  exact numAt_be (p := be 2 s) _ (be_len _ _) (by omega)
theorem built_at4 {a b s d : Nat} {nosum : Bool} {body more : List Nat} (hb : body.length ≤ 65507) : numAt (ubytes a b s d nosum body ++ more) 4 2 = body.length + 8 := by
  rw [ubytes_flat, ← List.append_assoc (be 2 s)]
  exact numAt_be (p := be 2 s ++ be 2 d) _ (by simp [be_len]) (by omega)
theorem built_at6 {a b s d : Nat} {nosum : Bool} {body more : List Nat} : numAt (ubytes a b s d nosum body ++ more) 6 2 = told a b s d nosum body := by
  rw [ubytes_flat, ← List.append_assoc (be 2 s), ← List.append_assoc (be 2 s ++ be 2 d)]
  have := told_lt a b s d nosum body
  exact numAt_be (p := be 2 s ++ be 2 d ++ be 2 (body.length + 8)) _ (by simp [be_len]) (by omega)
theorem built_take (a b s d : Nat) (nosum : Bool) (body more : List Nat) : (ubytes a b s d nosum body ++ more).take (body.length + 8) = ubytes a b s d nosum body := by
  have h := ubytes_len a b s d nosum body
  rw [List.take_append_of_le_length (by omega), List.take_of_length_le (by omega)]
theorem built_body (a b s d : Nat) (nosum : Bool) (body more : ByteArray) : (bs (ubytes a b s d nosum (nb body)) ++ more).extract 8 (body.size + 8) = body := by
  apply nb_inj
  rw [nb_extract, built_nb, ← nb_len body, built_take]
  unfold ubytes
  rw [← List.append_assoc, List.drop_append_of_le_length (by rw [List.length_append, uhead_len, be_len]; exact Nat.le_refl _), List.drop_of_length_le (by rw [List.length_append, uhead_len, be_len]; exact Nat.le_refl _)]
  rfl
def rest (a b s d : Nat) (nosum : Bool) (body : List Nat) : Nat := wsum (uhead s d (body.length + 8)) + (told a b s d nosum body + wsum body)
theorem built_sum (a b a' b' s d : Nat) (nosum : Bool) (body : List Nat) : wsum (headL a' b' 17 ((body.length + 8 : Nat) : Int) ++ ubytes a b s d nosum body) = wsum (headL a' b' 17 ((body.length + 8 : Nat) : Int)) + rest a b s d nosum body := by
  have ht := told_lt a b s d nosum body
  unfold rest
  rw [wsum_append _ (by rw [headL_len])]
  have : ubytes a b s d nosum body = uhead s d (body.length + 8) ++ (be 2 (told a b s d nosum body) ++ body) := rfl
  rw [this, wsum_append _ (by rw [uhead_len]), wsum_append _ (by rw [be_len]), wsum_two ht]
theorem headL_wsum {a b : Nat} (ha : a < 4294967296) (hb : b < 4294967296) {n : Nat} (hn : n < 65536) : wsum (headL a b 17 (n : Int)) = a / 65536 + a % 65536 + (b / 65536 + b % 65536) + 17 + n := by
  have e : (((n : Nat) : Int) % 65536).toNat = n := by omega
  unfold headL
  rw [e]
  simp only [be, List.nil_append, List.cons_append, wsum]
  have : ((17 : Int) % 256).toNat = 17 := by decide
  rw [this]
  omega
theorem fold_iff (n : Nat) : foldN n = 65535 ↔ 0 < n ∧ n % 65535 = 0 := by
  unfold foldN
  split <;> omega
theorem sum_right {a b : Nat} (ha : a < 4294967296) (hb : b < 4294967296) (s d : Nat) (body : List Nat) (hl : body.length ≤ 65507) :
    (wsum (headL a b 17 ((body.length + 8 : Nat) : Int)) + rest a b s d false body) % 65535 = 0 := by
  have h1 := told_false a b s d body
  have h2 : wsum (headL a b 17 ((body.length + 8 : Nat) : Int) ++ (uhead s d (body.length + 8) ++ body)) = wsum (headL a b 17 ((body.length + 8 : Nat) : Int)) + (wsum (uhead s d (body.length + 8)) + wsum body) := by
    rw [wsum_append _ (by rw [headL_len]), wsum_append _ (by rw [uhead_len])]
  unfold rest
  rw [h1]
  unfold usum csumN foldN
  rw [h2]
  have h3 := headL_wsum ha hb (n := body.length + 8) (by omega)
  generalize wsum (headL a b 17 ((body.length + 8 : Nat) : Int)) = x at *
  generalize wsum (uhead s d (body.length + 8)) = y at *
  generalize wsum body = z at *
  rw [if_neg (show ¬ (x + (y + z) = 0) by omega)]
  split <;> omega
theorem built_parse {a b a' b' s d : Nat} {nosum : Bool} {body : ByteArray} (more : ByteArray) (hs : s < 65536) (hd : d < 65536) (hb : body.size ≤ 65507)
    (hw : nosum = true ∨ foldN (wsum (headL a' b' 17 (((nb body).length + 8 : Nat) : Int)) + rest a b s d nosum (nb body)) = 65535) :
    uparse a' b' (bs (ubytes a b s d nosum (nb body)) ++ more) = ((s : Int), (d : Int), nosum, body, 0) := by
  have hz := built_size a b s d nosum body more
  have hl := nb_len body
  unfold uparse
  rw [built_nb, built_at4 (by omega), built_at0 hs, built_at2 hd, built_at6, built_take, built_sum]
  rw [if_neg (by omega), if_neg (by omega), if_neg (by omega)]
  have hc : ¬ (told a b s d nosum (nb body) ≠ 0 ∧ foldN (wsum (headL a' b' 17 (((nb body).length + 8 : Nat) : Int)) + rest a b s d nosum (nb body)) ≠ 65535) := by
    intro h
    rcases hw with hw | hw
    · exact h.1 (by unfold told; rw [if_pos hw])
    · exact h.2 hw
  rw [if_neg hc, hl, built_body]
  have ht : decide (told a b s d nosum (nb body) = 0) = nosum := by
    have := usum_bound a b s d (nb body)
    unfold told
    cases nosum with
    | true => rfl
    | false =>
      rw [if_neg (by decide)]
      exact decide_eq_false (by omega)
  rw [ht]
end Go.Proofs.YtbkgaplldfilnaaDoor.P
namespace Go.Proofs.YtbkgaplldfilnaaDoor.P
open Go Go.RowKit Go.Proofs.YtbkgaplldfilnaaDoorW.PrintWords Go.Proofs.YtbkgaplldfilnaaDoorW.PrintLast Go.Proofs.YtbkgaplldfilnaaDoorW.PrintMore Go.Proofs.YtbkgaplldfilnaaDoor.L

theorem band40 (m : Nat) (h : m < 18446744073709551616) : Go.bits .and .u64 (m : Int) 1099511627776 = ((m / 1099511627776 % 2 * 1099511627776 : Nat) : Int) := by
  have e0 : Go.bits .and .u64 (m : Int) 1099511627776 = IntKind.u64.wrap ((BitVec.ofInt 64 (m : Int) &&& BitVec.ofInt 64 1099511627776).toNat : Int) := rfl
  rw [e0, BitVec.toNat_and]
  have e1 : (BitVec.ofInt 64 (m : Int)).toNat = m := by
    rw [BitVec.ofInt_natCast, BitVec.toNat_ofNat]
    exact Nat.mod_eq_of_lt (by omega)
  have e2 : (BitVec.ofInt 64 (1099511627776 : Int)).toNat = 2 ^ 40 := by decide
  have e3 : (2 : Nat) ^ 40 = 1099511627776 := by decide
  have e4 : m &&& 2 ^ 40 = m / 1099511627776 % 2 * 1099511627776 := by
    apply Nat.eq_of_testBit_eq
    intro i
    rw [Nat.testBit_and, Nat.testBit_two_pow]
    by_cases hi : 40 = i
    · subst hi
      rw [decide_eq_true rfl, Bool.and_true, Nat.testBit_eq_decide_div_mod_eq, Nat.testBit_eq_decide_div_mod_eq, e3]
      rw [Nat.mul_div_cancel _ (by decide), Nat.mod_mod]
    · rw [decide_eq_false hi, Bool.and_false]
      have h2 : m / 1099511627776 % 2 = 0 ∨ m / 1099511627776 % 2 = 1 := by omega
      rcases h2 with h2 | h2
      · rw [h2, Nat.zero_mul, Nat.zero_testBit]
      · rw [h2, Nat.one_mul, ← e3, Nat.testBit_two_pow, decide_eq_false hi]
  rw [e1, e2, e4]
  exact u64w (by omega) (by omega)
def grpN (m : Nat) : Bool := decide (m / 1099511627776 % 2 = 1)
def ownN (m : Nat) : Bool := decide (0 < m) && decide (m < 281474976710656) && !grpN m
theorem group_eq {m : Nat} (h : m < 18446744073709551616) : addrs_Group.f (m : Int) = some (grpN m) := by
  unfold addrs_Group.f grpN
  rw [band40 m h]
  congr 1
  rw [Bool.eq_iff_iff, bne_iff_ne, decide_eq_true_eq]
  omega
theorem rgroup_eq {m : Nat} (h : m < 18446744073709551616) : gangwayref02_Group.f (m : Int) = some (grpN m) := by
  unfold gangwayref02_Group.f grpN
  rw [Int.tdiv_eq_ediv_of_nonneg (by omega), u64w (by omega) (by omega), Int.tmod_eq_emod_of_nonneg (by omega)]
  congr 1
  rw [Bool.eq_iff_iff, beq_iff_eq, decide_eq_true_eq]
  omega
theorem own_eq {m : Nat} (h : m < 18446744073709551616) : addrs_Own.f (m : Int) = some (ownN m) := by
  unfold addrs_Own.f ownN
  by_cases h0 : m = 0
  · subst h0
    rfl
  · rw [if_neg (by omega), decide_eq_true (show 0 < m by omega)]
    by_cases h1 : m < 281474976710656
    · rw [if_pos (by omega), group_eq h, decide_eq_true h1]
      rfl
    · rw [if_neg (by omega), decide_eq_false h1]
      rfl
theorem rown_eq {m : Nat} (h : m < 18446744073709551616) : gangwayref02_Own.f (m : Int) = some (ownN m) := by
  unfold gangwayref02_Own.f ownN
  by_cases h0 : m = 0
  · subst h0
    rfl
  · rw [if_pos (by omega), decide_eq_true (show 0 < m by omega)]
    by_cases h1 : m < 281474976710656
    · rw [if_pos (by omega), rgroup_eq h, decide_eq_true h1]
      rfl
    · rw [if_neg (by omega), decide_eq_false h1]
      rfl
def aok (op : Int) (sm tm : Nat) : Bool := (decide (op = 1) || decide (op = 2)) && ownN sm && decide (tm < 281474976710656)
theorem acheck_eq {op : Int} {sm tm : Nat} (si ti : Int) (h1 : sm < 18446744073709551616) : arp_Check.f op (sm : Int) si (tm : Int) ti = some (if aok op sm tm = true then 0 else 51) := by
  unfold arp_Check.f
  rw [own_eq h1]
  unfold aok
  by_cases e1 : op = 1 <;> by_cases e2 : op = 2 <;> by_cases e3 : ownN sm = true <;> by_cases e4 : tm < 281474976710656 <;> simp [e1, e2, e3, e4] <;> omega
theorem size_six : (⟨#[0, 1, 8, 0, 6, 4]⟩ : ByteArray).size = 6 := rfl
def ahas (s : ByteArray) : Bool := decide ((nb s).take 6 = [0, 1, 8, 0, 6, 4])
theorem toList_nb (s : ByteArray) : s.toList.map UInt8.toNat = nb s := by
  rw [ByteArray.toList_eq]
  rfl
theorem list_six (s : ByteArray) : s.toList = ([0, 1, 8, 0, 6, 4] : List UInt8) ↔ nb s = [0, 1, 8, 0, 6, 4] := by
  constructor
  · intro h
    rw [← toList_nb, h]
    rfl
  · intro h
    have : s = (⟨#[0, 1, 8, 0, 6, 4]⟩ : ByteArray) := nb_inj (by rw [h]; rfl)
    rw [this]
    decide +kernel
theorem cut_six {s : ByteArray} : (s.extract 0 6).toList = ([0, 1, 8, 0, 6, 4] : List UInt8) ↔ ahas s = true := by
  rw [list_six, nb_extract, List.drop_zero]
  unfold ahas
  rw [decide_eq_true_eq]
theorem prefix_eq {s : ByteArray} (h : 28 ≤ s.size) : strings_HasPrefix.f s (⟨#[0, 1, 8, 0, 6, 4]⟩ : ByteArray) = some (ahas s) := by
  unfold strings_HasPrefix.f stringslite_HasPrefix.f
  rw [size_six, if_pos (by omega), if_pos (by omega), if_pos (by omega)]
  show some _ = _
  congr 1
  rw [Bool.eq_iff_iff, beq_iff_eq, ← cut_six]
  have e : (⟨#[0, 1, 8, 0, 6, 4]⟩ : ByteArray).toList = ([0, 1, 8, 0, 6, 4] : List UInt8) := by decide +kernel
  rw [e]
  exact Iff.rfl
def aparse (s : ByteArray) : Int × Int × Int × Int × Int × Int :=
  if s.size < 28 then (0, 0, 0, 0, 0, 50)
  else if ahas s = true ∧ aok ((numAt (nb s) 6 2 : Nat) : Int) (numAt (nb s) 8 6) (numAt (nb s) 18 6) = true then
    (((numAt (nb s) 6 2 : Nat) : Int), ((numAt (nb s) 8 6 : Nat) : Int), ((numAt (nb s) 14 4 : Nat) : Int), ((numAt (nb s) 18 6 : Nat) : Int), ((numAt (nb s) 24 4 : Nat) : Int), 0)
  else (0, 0, 0, 0, 0, 51)
theorem anums (s : ByteArray) : numAt (nb s) 6 2 < 65536 ∧ numAt (nb s) 8 6 < 281474976710656 ∧ numAt (nb s) 14 4 < 4294967296 ∧ numAt (nb s) 18 6 < 281474976710656 ∧ numAt (nb s) 24 4 < 4294967296 := by
  have hby := nb_byt s
  have h1 := numAt_lt hby 6 2
  have h2 := numAt_lt hby 8 6
  have h3 := numAt_lt hby 14 4
  have h4 := numAt_lt hby 18 6
  have h5 := numAt_lt hby 24 4
  have e2 : (256 : Nat) ^ 2 = 65536 := by decide
  have e4 : (256 : Nat) ^ 4 = 4294967296 := by decide
  have e6 : (256 : Nat) ^ 6 = 281474976710656 := by decide
  rw [e2] at h1
  rw [e6] at h2 h4
  rw [e4] at h3 h5
  exact ⟨h1, h2, h3, h4, h5⟩
theorem aparse_ev {s : ByteArray} (hs : s.size ≤ 1000000) : Ev (fun k => arp_Parse.f k s) (aparse s) := by
  unfold arp_Parse.f aparse
  by_cases h0 : s.size < 28
  · rw [if_pos h0]
    exact ev_pos (by omega) (ev_now rfl)
  · rw [if_neg h0]
    refine ev_neg (by omega) ?_
    obtain ⟨l1, l2, l3, l4, l5⟩ := anums s
    refine Ev.bind (get_ev (s := s) (i := 6) (n := 2) (by decide) (by decide) (by omega) (by omega)) ?_
    refine Ev.bind (get_ev (s := s) (i := 8) (n := 6) (by decide) (by decide) (by omega) (by omega)) ?_
    refine Ev.bind (get_ev (s := s) (i := 14) (n := 4) (by decide) (by decide) (by omega) (by omega)) ?_
    refine Ev.bind (get_ev (s := s) (i := 18) (n := 6) (by decide) (by decide) (by omega) (by omega)) ?_
    refine Ev.bind (get_ev (s := s) (i := 24) (n := 4) (by decide) (by decide) (by omega) (by omega)) ?_
    rw [prefix_eq (by omega)]
    dsimp only
    generalize numAt (nb s) 6 2 = n1 at *
    generalize numAt (nb s) 8 6 = n2 at *
    generalize numAt (nb s) 14 4 = n3 at *
    generalize numAt (nb s) 18 6 = n4 at *
    generalize numAt (nb s) 24 4 = n5 at *
    have e1 : wrap64 (n1 : Int) = (n1 : Int) := w64 (by omega) (by omega)
    have e3 : (n3 : Int) % 4294967296 = (n3 : Int) := by omega
    have e5 : (n5 : Int) % 4294967296 = (n5 : Int) := by omega
    rw [e1, e3, e5, acheck_eq _ _ (by omega)]
    by_cases hh : ahas s = true
    · refine ev_some (ev_pos hh ?_)
      by_cases hok : aok (n1 : Int) n2 n4 = true
      · rw [if_pos hok, if_pos ⟨hh, hok⟩]
        exact ev_some (ev_pos rfl (ev_now rfl))
      · have hc : ¬ (ahas s = true ∧ aok (n1 : Int) n2 n4 = true) := fun h => hok h.2
        rw [if_neg hok, if_neg hc]
        exact ev_some (ev_neg (by decide) (ev_now rfl))
    · have hc : ¬ (ahas s = true ∧ aok (n1 : Int) n2 n4 = true) := fun h => hh h.1
      rw [if_neg hc]
      exact ev_some (ev_neg hh (ev_now rfl))
theorem aof_ev {s : ByteArray} (hs : s.size ≤ 1000000) (d e : Int) (a : Bool) (b : Int) (c : Bool) (f : Int) :
    Ev (fun k => arp_Of.f k d e a b c f 2054 s) ((aparse s).1, (aparse s).2.1, (aparse s).2.2.1, (aparse s).2.2.2.1, (aparse s).2.2.2.2.1, ((aparse s).2.2.2.2.2 == 0)) := by
  unfold arp_Of.f
  exact ev_pos rfl (Ev.bind (aparse_ev hs) (ev_now rfl))
theorem append_none (s : ByteArray) : s ++ (⟨#[]⟩ : ByteArray) = s := by
  apply ByteArray.ext
  rw [ByteArray.data_append]
  simp
end Go.Proofs.YtbkgaplldfilnaaDoor.P
namespace Go.Proofs.YtbkgaplldfilnaaDoor.P
set_option linter.unusedSimpArgs false
set_option linter.unusedVariables false
open Go Go.RowKit Go.Proofs.YtbkgaplldfilnaaDoorW.PrintWords Go.Proofs.YtbkgaplldfilnaaDoorW.PrintLast Go.Proofs.YtbkgaplldfilnaaDoorW.PrintMore Go.Proofs.YtbkgaplldfilnaaDoor.L

theorem not_frame {n : Int} (h0 : 0 ≤ n) (h1 : n < 1000) : station_not.f (⟨#[102, 114, 97, 109, 101]⟩ : ByteArray) n = some (some (1000 + n)) := by
  unfold station_not.f
  rw [if_pos h0, if_pos h1, if_pos rfl]
theorem not_packet {n : Int} (h0 : 0 ≤ n) (h1 : n < 1000) : station_not.f (⟨#[112, 97, 99, 107, 101, 116]⟩ : ByteArray) n = some (some (2000 + n)) := by
  unfold station_not.f
  rw [if_pos h0, if_pos h1, if_neg (fun h => absurd (congrArg ByteArray.size h) (by decide)), if_pos rfl]
theorem not_datagram {n : Int} (h0 : 0 ≤ n) (h1 : n < 1000) : station_not.f (⟨#[100, 97, 116, 97, 103, 114, 97, 109]⟩ : ByteArray) n = some (some (3000 + n)) := by
  unfold station_not.f
  rw [if_pos h0, if_pos h1, if_neg (fun h => absurd (congrArg ByteArray.size h) (by decide)), if_neg (fun h => absurd (congrArg ByteArray.size h) (by decide)), if_pos rfl]

abbrev TK := Int × Int × Int × Int × Bool × ByteArray × Int × Int × Int × Int × Int
def tbad (n : Int) : TK := (n, 0, 0, 0, false, (⟨#[]⟩ : ByteArray), 0, 0, 0, 0, 0)
def notMine (mac dst : Nat) : Bool := decide (dst ≠ mac) && decide (dst ≠ 281474976710655)
def badFrame (src : Nat) (has : Bool) (ty : Int) : Bool := has || !ownN src || (decide (ty ≠ 2048) && decide (ty ≠ 2054))
theorem framed_j0 {src : Nat} (h1 : src < 18446744073709551616) (b : Bool) (dst : Int) (has : Bool) (x : Int) (y : Bool) (z ty : Int) (s : ByteArray) :
    Ev (fun k => station_framed.j0 k b dst (src : Int) has x y z ty s) (if b = true then some 1002 else if badFrame src has ty = true then some 1003 else none) := by
  refine ev_succ ?_
  have e2 := not_frame (n := 2) (by decide) (by decide)
  have e3 := not_frame (n := 3) (by decide) (by decide)
  simp only [station_framed.j0, e2, e3, own_eq h1]
  cases b
  · refine ev_neg (show ¬ (false = true) by decide) ?_
    cases has
    · refine ev_neg (show ¬ (false = true) by decide) ?_
      cases ho : ownN src
      · exact ev_some (ev_neg (show ¬ (false = true) by decide) (ev_now (by simp [badFrame, ho])))
      · refine ev_some (ev_pos rfl ?_)
        by_cases h2 : ty = 2048
        · subst h2
          exact ev_pos rfl (ev_now (by simp [badFrame, ho]))
        · refine ev_neg h2 ?_
          by_cases h3 : ty = 2054
          · subst h3
            exact ev_pos rfl (ev_now (by simp [badFrame, ho]))
          · exact ev_neg h3 (ev_now (by simp [badFrame, ho, h2, h3]))
    · exact ev_pos rfl (ev_now (by simp [badFrame]))
  · exact ev_pos rfl (ev_now (by simp))
theorem framed_ev {mac dst src : Nat} (h1 : src < 18446744073709551616) (has : Bool) (x : Int) (y : Bool) (z ty : Int) (s : ByteArray) :
    Ev (fun k => station_framed.f k (mac : Int) (dst : Int) (src : Int) has x y z ty s) (if notMine mac dst = true then some 1002 else if badFrame src has ty = true then some 1003 else none) := by
  unfold station_framed.f
  by_cases h : dst = mac
  · subst h
    refine ev_pos rfl (ev_eq (framed_j0 h1 false _ has x y z ty s) ?_)
    simp [notMine]
  · refine ev_neg (by omega) (ev_eq (framed_j0 h1 _ _ has x y z ty s) ?_)
    have e : ((dst : Int) != 281474976710655) = notMine mac dst := by
      unfold notMine
      by_cases h2 : dst = 281474976710655
      · subst h2; simp
      · have : ¬ ((dst : Int) = 281474976710655) := by omega
        simp [h, h2, this]
    rw [e]

def perr (ip : Nat) (s : ByteArray) : Option Int :=
  if iwrong s ≠ 0 ∨ (nb s).getD 8 0 = 0 then some 4 else if numAt (nb s) 16 4 ≠ ip then some 2
  else if numAt (nb s) 6 2 / 8192 % 2 = 1 ∨ 0 < numAt (nb s) 6 2 % 8192 then some 5 else none
def pk (s : ByteArray) (e : Option Int) : Int × Int × Bool × Bool × Int × Int × Int × Int × Int × ByteArray × Option Int :=
  ((iparse s).1, (iparse s).2.1, (iparse s).2.2.1, (iparse s).2.2.2.1, (iparse s).2.2.2.2.1, (iparse s).2.2.2.2.2.1, (iparse s).2.2.2.2.2.2.1, (iparse s).2.2.2.2.2.2.2.1, (iparse s).2.2.2.2.2.2.2.2.1, (iparse s).2.2.2.2.2.2.2.2.2.1, e)
theorem packet_ev {ip : Nat} {s : ByteArray} (hs : s.size ≤ 1000000) :
    Ev (fun k => station_packet.f k (ip : Int) s) (pk s ((perr ip s).map (2000 + ·))) := by
  unfold station_packet.f
  refine Ev.bind (iparse_ev hs) ?_
  have e4 := not_packet (n := 4) (by decide) (by decide)
  have e2 := not_packet (n := 2) (by decide) (by decide)
  have e5 := not_packet (n := 5) (by decide) (by decide)
  by_cases hw : iwrong s = 0
  · have hp : iparse s = iread s := by unfold iparse; rw [if_pos hw]
    refine ev_pos (by rw [hp]; rfl) (ev_succ ?_)
    simp only [station_packet.j0, e4, e2, e5, ipart_eq]
    by_cases ht : (nb s).getD 8 0 = 0
    · have hr : perr ip s = some 4 := by
        unfold perr
        rw [if_pos (Or.inr ht)]
      refine ev_pos (by rw [hp]; simp only [iread, ht]; rfl) (ev_now ?_)
      rw [hr]
      rfl
    · have hz : ¬ (iwrong s ≠ 0 ∨ (nb s).getD 8 0 = 0) := fun h => h.elim (fun h => h hw) ht
      refine ev_neg (by rw [hp]; simp only [iread, beq_iff_eq]; omega) ?_
      by_cases hd : numAt (nb s) 16 4 = ip
      · refine ev_pos (by rw [hp]; simp only [iread]; omega) ?_
        by_cases hq : numAt (nb s) 6 2 / 8192 % 2 = 1 ∨ 0 < numAt (nb s) 6 2 % 8192
        · have hr : perr ip s = some 5 := by
            unfold perr
            rw [if_neg hz, if_neg (show ¬ (numAt (nb s) 16 4 ≠ ip) from fun h => h hd), if_pos hq]
          refine ev_some (ev_pos ?_ (ev_now ?_))
          · rw [hp]
            simp only [iread, Bool.or_eq_true, decide_eq_true_eq]
            rcases hq with h | h
            · exact Or.inl h
            · exact Or.inr (decide_eq_true (Int.natCast_pos.2 h))
          · rw [hr]
            rfl
        · have hr : perr ip s = none := by
            unfold perr
            rw [if_neg hz, if_neg (show ¬ (numAt (nb s) 16 4 ≠ ip) from fun h => h hd), if_neg hq]
          refine ev_some (ev_neg ?_ (ev_now ?_))
          · rw [hp]
            simp only [iread, Bool.or_eq_true, decide_eq_true_eq]
            rintro (h | h)
            · exact hq (Or.inl h)
            · exact hq (Or.inr (Int.natCast_pos.1 (of_decide_eq_true h)))
          · rw [hr]
            rfl
      · have hr : perr ip s = some 2 := by
          unfold perr
          rw [if_neg hz, if_pos hd]
        refine ev_neg (by rw [hp]; simp only [iread]; omega) (ev_now ?_)
        rw [hr]
        rfl
  · have hp : iparse s = ibad (iwrong s) := by unfold iparse; rw [if_neg hw]
    have hr : perr ip s = some 4 := by
      unfold perr
      rw [if_pos (Or.inl hw)]
    refine ev_neg (by rw [hp]; exact hw) (ev_succ ?_)
    simp only [station_packet.j0, e4]
    refine ev_pos trivial (ev_now ?_)
    rw [hr]
    rfl

def ud (s : ByteArray) : Int × Int × Bool × ByteArray × Int := uparse (numAt (nb s) 12 4) (numAt (nb s) 16 4) (s.extract 20 (numAt (nb s) 2 2))
def derr (s : ByteArray) : Option Int := if (nb s).getD 9 0 ≠ 17 ∨ (ud s).2.2.2.2 ≠ 0 then some 6 else if (ud s).2.1 ≠ 4789 then some 7 else none
theorem datagram_ev {s : ByteArray} (hs : s.size ≤ 1000000) (a b : Int) (c d : Bool) (e f : Int) :
    Ev (fun k => station_datagram.f k a b c d e f (((nb s).getD 9 0 : Nat) : Int) ((numAt (nb s) 12 4 : Nat) : Int) ((numAt (nb s) 16 4 : Nat) : Int) (s.extract 20 (numAt (nb s) 2 2)))
      ((ud s).1, (ud s).2.1, (ud s).2.2.1, (ud s).2.2.2.1, (derr s).map (3000 + ·)) := by
  unfold station_datagram.f
  have hn := i_nums (nb_byt s)
  have e6 := not_datagram (n := 6) (by decide) (by decide)
  have e7 := not_datagram (n := 7) (by decide) (by decide)
  refine Ev.bind (parse_ev hn.2.2.2.2.2.1 hn.2.2.2.2.2.2 (s := s.extract 20 (numAt (nb s) 2 2)) (by rw [ByteArray.size_extract]; omega)) ?_
  rw [show uparse (numAt (nb s) 12 4) (numAt (nb s) 16 4) (s.extract 20 (numAt (nb s) 2 2)) = ud s from rfl]
  by_cases h1 : (nb s).getD 9 0 = 17
  · refine ev_pos (by omega) (ev_succ ?_)
    simp only [station_datagram.j0, e6, e7]
    by_cases h2 : (ud s).2.2.2.2 = 0
    · have hz : ¬ ((nb s).getD 9 0 ≠ 17 ∨ (ud s).2.2.2.2 ≠ 0) := fun h => h.elim (fun h => h h1) (fun h => h h2)
      refine ev_neg (by simp [h2]) ?_
      by_cases h3 : (ud s).2.1 = 4789
      · have hr : derr s = none := by
          unfold derr
          rw [if_neg hz, if_neg (show ¬ ((ud s).2.1 ≠ 4789) from fun h => h h3)]
        rw [hr]
        exact ev_pos h3 (ev_now rfl)
      · have hr : derr s = some 7 := by
          unfold derr
          rw [if_neg hz, if_pos h3]
        rw [hr]
        exact ev_neg h3 (ev_now rfl)
    · have hr : derr s = some 6 := by
        unfold derr
        rw [if_pos (Or.inr h2)]
      rw [hr]
      exact ev_pos (by simp [h2]) (ev_now rfl)
  · have hr : derr s = some 6 := by
      unfold derr
      rw [if_pos (Or.inl h1)]
    rw [hr]
    refine ev_neg (by omega) (ev_succ ?_)
    simp only [station_datagram.j0, e6]
    exact ev_pos trivial (ev_now rfl)

def spacket (ip : Nat) (s : ByteArray) : TK :=
  match perr ip s with
  | some n => tbad n
  | none => match derr s with
    | some n => tbad n
    | none => (0, ((numAt (nb s) 12 4 : Nat) : Int), (ud s).1, (ud s).2.1, (ud s).2.2.1, (ud s).2.2.2.1, 0, 0, 0, 0, 0)
def stake (mac ip dst src : Nat) (has : Bool) (ty : Int) (s : ByteArray) : TK :=
  if notMine mac dst = true then tbad 2 else if badFrame src has ty = true then tbad 3
  else if ty = 2054 then (if (aparse s).2.2.2.2.2 = 0 then (1, 0, 0, 0, false, (⟨#[]⟩ : ByteArray), (aparse s).1, (aparse s).2.1, (aparse s).2.2.1, (aparse s).2.2.2.1, (aparse s).2.2.2.2.1) else tbad 3)
  else spacket ip s
def sgot (mac ip dst src : Nat) (has : Bool) (ty : Int) (s : ByteArray) : Int × Int × Int × Int × Bool × ByteArray × Option Int :=
  if notMine mac dst = true then (0, 0, 0, 0, false, (⟨#[]⟩ : ByteArray), some 1002) else if badFrame src has ty = true then (0, 0, 0, 0, false, (⟨#[]⟩ : ByteArray), some 1003)
  else match perr ip s with
  | some n => (0, 0, 0, 0, false, (⟨#[]⟩ : ByteArray), some (2000 + n))
  | none => match derr s with
    | some n => (0, 0, 0, 0, false, (⟨#[]⟩ : ByteArray), some (3000 + n))
    | none => (0, ((numAt (nb s) 12 4 : Nat) : Int), (ud s).1, (ud s).2.1, (ud s).2.2.1, (ud s).2.2.2.1, none)
theorem perr_none {ip : Nat} {s : ByteArray} (h : perr ip s = none) : iwrong s = 0 ∧ (nb s).getD 8 0 ≠ 0 ∧ numAt (nb s) 16 4 = ip ∧ ¬ (numAt (nb s) 6 2 / 8192 % 2 = 1 ∨ 0 < numAt (nb s) 6 2 % 8192) := by
  unfold perr at h
  split at h
  · cases h
  · rename_i h1
    split at h
    · cases h
    · rename_i h2
      split at h
      · cases h
      · rename_i h3
        exact ⟨Decidable.byContradiction fun h => h1 (Or.inl h), fun h => h1 (Or.inr h), Decidable.byContradiction fun h => h2 h, h3⟩
theorem perr_some {ip : Nat} {s : ByteArray} {n : Int} (h : perr ip s = some n) : n = 4 ∨ n = 2 ∨ n = 5 := by
  unfold perr at h
  repeat' split at h
  all_goals (first | (cases h; done) | (cases h; simp))
theorem derr_some {s : ByteArray} {n : Int} (h : derr s = some n) : n = 6 ∨ n = 7 := by
  unfold derr at h
  repeat' split at h
  all_goals (first | (cases h; done) | (cases h; simp))
theorem got_ev {mac ip dst src : Nat} (h1 : src < 18446744073709551616) {s : ByteArray} (hs : s.size ≤ 1000000) (has : Bool) (x : Int) (y : Bool) (z ty : Int) :
    Ev (fun k => station_got.f k (mac : Int) (ip : Int) (dst : Int) (src : Int) has x y z ty s) (sgot mac ip dst src has ty s) := by
  unfold station_got.f sgot
  refine Ev.bind (framed_ev h1 has x y z ty s) ?_
  cases hm : notMine mac dst
  · rw [if_neg (show ¬ (false = true) by decide), if_neg (show ¬ (false = true) by decide)]
    cases hb : badFrame src has ty
    · rw [if_neg (show ¬ (false = true) by decide), if_neg (show ¬ (false = true) by decide)]
      refine ev_pos rfl (Ev.bind (packet_ev hs) ?_)
      cases hp : perr ip s with
      | some n => exact ev_neg (by simp [pk]) (ev_now (by simp [pk]))
      | none =>
        obtain ⟨q1, q2, q3, q4⟩ := perr_none hp
        have hi : iparse s = iread s := by unfold iparse; rw [if_pos q1]
        refine ev_pos (by simp [pk]) ?_
        simp only [pk, hi, iread]
        refine Ev.bind (datagram_ev hs _ _ _ _ _ _) ?_
        cases hd : derr s with
        | some n => exact ev_neg (by simp) (ev_now (by simp))
        | none => exact ev_pos (by simp) (ev_now (by simp))
    · rw [if_pos (show true = true from rfl), if_pos (show true = true from rfl)]
      exact ev_neg (by decide) (ev_now rfl)
  · rw [if_pos (show true = true from rfl), if_pos (show true = true from rfl)]
    exact ev_neg (by decide) (ev_now rfl)
theorem as_known {c n : Int} (h : 1000 ≤ c) (hn : c % 1000 = n) : errors_As.f (some c) = some (true, n) := by
  unfold errors_As.f
  show (if 1000 ≤ c then some (true, c % 1000) else none) = _
  rw [if_pos h, hn]
def stake0 (mac ip dst src : Nat) (has : Bool) (ty : Int) (s : ByteArray) : TK :=
  if notMine mac dst = true then tbad 2 else if badFrame src has ty = true then tbad 3 else spacket ip s
theorem got_cases (mac ip dst src : Nat) (has : Bool) (ty : Int) (s : ByteArray) :
    (∃ c, 1000 ≤ c ∧ sgot mac ip dst src has ty s = (0, 0, 0, 0, false, (⟨#[]⟩ : ByteArray), some c) ∧ stake0 mac ip dst src has ty s = tbad (c % 1000))
    ∨ (∃ a b c d e f, sgot mac ip dst src has ty s = (a, b, c, d, e, f, none) ∧ stake0 mac ip dst src has ty s = (a, b, c, d, e, f, 0, 0, 0, 0, 0)) := by
  unfold sgot stake0 spacket
  cases hm : notMine mac dst
  · cases hb : badFrame src has ty
    · cases hp : perr ip s with
      | some n => exact Or.inl ⟨2000 + n, by rcases perr_some hp with rfl | rfl | rfl <;> decide, rfl, by rcases perr_some hp with rfl | rfl | rfl <;> rfl⟩
      | none =>
        cases hd : derr s with
        | some n => exact Or.inl ⟨3000 + n, by rcases derr_some hd with rfl | rfl <;> decide, rfl, by rcases derr_some hd with rfl | rfl <;> rfl⟩
        | none => exact Or.inr ⟨_, _, _, _, _, _, rfl, rfl⟩
    · exact Or.inl ⟨1003, by decide, rfl, rfl⟩
  · exact Or.inl ⟨1002, by decide, rfl, rfl⟩
theorem take_j0 {mac ip dst src : Nat} (h1 : src < 18446744073709551616) {s : ByteArray} (hs : s.size ≤ 1000000) (has : Bool) (x : Int) (y : Bool) (z ty : Int) :
    Ev (fun k => station_Take.j0 k (mac : Int) (ip : Int) false (dst : Int) (src : Int) has x y z ty s) (stake0 mac ip dst src has ty s) := by
  refine ev_succ ?_
  simp only [station_Take.j0]
  refine ev_neg (show ¬ (false = true) by decide) (Ev.bind (got_ev h1 hs has x y z ty) ?_)
  rcases got_cases mac ip dst src has ty s with ⟨c, hc, e1, e2⟩ | ⟨a, b, c, d, e, f, e1, e2⟩
  · rw [e1, e2]
    exact Ev.bind (ev_known (as_known hc rfl)) (ev_pos rfl (ev_now rfl))
  · rw [e1, e2]
    exact ev_some (ev_neg (show ¬ (false = true) by decide) (ev_now rfl))
theorem take_ev {mac ip dst src : Nat} (h1 : src < 18446744073709551616) {s : ByteArray} (hs : s.size ≤ 1000000) (has : Bool) (x : Int) (y : Bool) (z ty : Int) :
    Ev (fun k => station_Take.f k (mac : Int) (ip : Int) (dst : Int) (src : Int) has x y z ty s) (stake mac ip dst src has ty s) := by
  unfold station_Take.f
  by_cases ht : ty = 2054
  · subst ht
    refine ev_pos rfl (Ev.bind (framed_ev h1 has x y z 2054 s) ?_)
    by_cases hf : (if notMine mac dst = true then some 1002 else if badFrame src has 2054 = true then some 1003 else none : Option Int) = none
    · rw [hf]
      refine ev_pos rfl (ev_succ ?_)
      simp only [station_Take.j0]
      have hm : notMine mac dst = false := by
        cases h : notMine mac dst
        · rfl
        · rw [h, if_pos rfl] at hf; cases hf
      have hb : badFrame src has 2054 = false := by
        rw [hm, if_neg (by decide)] at hf
        cases h : badFrame src has 2054
        · rfl
        · rw [h, if_pos rfl] at hf; cases hf
      refine ev_pos trivial (Ev.bind (aof_ev hs _ _ _ _ _ _) ?_)
      unfold stake
      rw [hm, if_neg (show ¬ (false = true) by decide), hb, if_neg (show ¬ (false = true) by decide), if_pos (show (2054 : Int) = 2054 from rfl)]
      by_cases he : (aparse s).2.2.2.2.2 = 0
      · rw [if_pos he]
        exact ev_pos (by simp [he]) (ev_now rfl)
      · rw [if_neg he]
        exact ev_neg (by simp [he]) (ev_now rfl)
    · have hz : ∃ c, (if notMine mac dst = true then some 1002 else if badFrame src has 2054 = true then some 1003 else none : Option Int) = some c := Option.ne_none_iff_exists'.mp hf
      obtain ⟨c, hc⟩ := hz
      rw [hc]
      refine ev_neg (by simp) (ev_eq (take_j0 h1 hs has x y z 2054) ?_)
      unfold stake0 stake
      cases hm : notMine mac dst
      · cases hb : badFrame src has 2054
        · rw [hm, hb] at hc; cases hc
        · rfl
      · rfl
  · refine ev_neg ht (ev_eq (take_j0 h1 hs has x y z ty) ?_)
    unfold stake0 stake
    rw [if_neg ht]

end Go.Proofs.YtbkgaplldfilnaaDoor.P
namespace Go.Proofs.YtbkgaplldfilnaaDoor.P
set_option linter.unusedSimpArgs false
set_option linter.unusedVariables false
open Go Go.RowKit Go.Proofs.YtbkgaplldfilnaaDoorW.PrintWords Go.Proofs.YtbkgaplldfilnaaDoorW.PrintLast Go.Proofs.YtbkgaplldfilnaaDoorW.PrintMore Go.Proofs.YtbkgaplldfilnaaDoor.L

def udg (a b : Nat) (src dst : Int) (nosum : Bool) (body : ByteArray) : List Nat := ubytes a b src.toNat dst.toNat nosum (nb body)
def spkt (a b : Nat) (src dst : Int) (nosum : Bool) (body : ByteArray) (id : Int) : ByteArray :=
  bs (ibytes 0 (id % 65536) true false 0 64 17 (itold 0 (id % 65536) true false 0 64 17 a b (udg a b src dst nosum body)) a b (udg a b src dst nosum body))
theorem udg_nb (a b : Nat) (src dst : Int) (nosum : Bool) (body : ByteArray) : nb (bs (udg a b src dst nosum body)) = udg a b src dst nosum body := nb_bs (ubytes_byt (nb_byt body))
theorem udg_size (a b : Nat) (src dst : Int) (nosum : Bool) (body : ByteArray) : (bs (udg a b src dst nosum body)).size = body.size + 8 := by
  rw [bs_size]
  unfold udg
  rw [ubytes_len, nb_len]
theorem udg_len (a b : Nat) (src dst : Int) (nosum : Bool) (body : ByteArray) : (udg a b src dst nosum body).length = body.size + 8 := by
  unfold udg
  rw [ubytes_len, nb_len]
theorem spkt_size (a b : Nat) (src dst : Int) (nosum : Bool) (body : ByteArray) (id : Int) : (spkt a b src dst nosum body id).size = 20 + (body.size + 8) := by
  unfold spkt
  rw [bs_size, ibytes_len, udg_len]
theorem sok {src dst : Int} {body : ByteArray} (h : uok src dst body = true) (a b : Nat) (nosum : Bool) (id : Int) : iok 0 (id % 65536) 0 64 17 (bs (udg a b src dst nosum body)).size = true := by
  rw [udg_size]
  have := (uok_iff.1 h).2.2
  exact iok_iff.2 ⟨by omega, by omega, by omega, by omega, by omega, by omega⟩
def smake (a b : Nat) (src dst : Int) (nosum : Bool) (body : ByteArray) (id most : Int) : ByteArray × Int :=
  if uok src dst body = true then (if most < 28 + (body.size : Int) then ((⟨#[]⟩ : ByteArray), 201) else (spkt a b src dst nosum body id, 0)) else ((⟨#[]⟩ : ByteArray), 71)
theorem smake_ok {src dst : Int} {body : ByteArray} (h : uok src dst body = true) {most : Int} (hm : 28 + (body.size : Int) ≤ most) (a b : Nat) (nosum : Bool) (id : Int) :
    smake a b src dst nosum body id most = (spkt a b src dst nosum body id, 0) := by
  unfold smake
  rw [if_pos h, if_neg (by omega)]
theorem smake_long {src dst : Int} {body : ByteArray} (h : uok src dst body = true) {most : Int} (hm : most < 28 + (body.size : Int)) (a b : Nat) (nosum : Bool) (id : Int) :
    smake a b src dst nosum body id most = ((⟨#[]⟩ : ByteArray), 201) := by
  unfold smake
  rw [if_pos h, if_pos hm]
theorem make_ev {a b : Nat} (ha : a < 4294967296) (hb : b < 4294967296) (src dst : Int) (nosum : Bool) (body : ByteArray) (id most : Int) :
    Ev (fun k => station_Make.f k (a : Int) (b : Int) src dst nosum body id most) (smake a b src dst nosum body id most) := by
  unfold station_Make.f smake
  simp only [mask16]
  refine Ev.bind (build_ev ha hb src dst nosum body) ?_
  unfold ubuild
  by_cases hok : uok src dst body = true
  · rw [if_pos hok, if_pos hok]
    refine ev_pos rfl (Ev.bind (ibuild_ev ha hb 0 (id % 65536) true false 0 64 17 (bs (udg a b src dst nosum body))) ?_)
    unfold ibuild
    rw [if_pos (sok hok a b nosum id), udg_nb]
    refine ev_pos rfl ?_
    have hz := spkt_size a b src dst nosum body id
    by_cases hm : most < 28 + (body.size : Int)
    · rw [if_pos hm]
      refine ev_pos ?_ (ev_now rfl)
      show ((spkt a b src dst nosum body id).size : Int) > most
      rw [hz]
      omega
    · rw [if_neg hm]
      refine ev_neg ?_ (ev_now rfl)
      show ¬ ((spkt a b src dst nosum body id).size : Int) > most
      rw [hz]
      omega
  · rw [if_neg hok, if_neg hok]
    exact ev_neg (by decide) (ev_now rfl)

theorem spkt_sum {src dst : Int} {body : ByteArray} (h : uok src dst body = true) {a b : Nat} (ha : a < 4294967296) (hb : b < 4294967296) (nosum : Bool) (id : Int) :
    sumOk (0 : Int).toNat (20 + (bs (udg a b src dst nosum body)).size) (id % 65536).toNat (iflags (0 : Int).toNat true false) (64 : Int).toNat (17 : Int).toNat (itold 0 (id % 65536) true false 0 64 17 a b (udg a b src dst nosum body)) a b := by
  have h1 := (uok_iff.1 h).2.2
  have h2 := iflags_lt (off := (0 : Int).toNat) (by decide) true false
  unfold itold
  rw [udg_size, udg_len]
  exact isum_ok _ _ _ (by omega) (by omega) (by omega) ha hb
theorem spkt_tells {src dst : Int} {body : ByteArray} (h : uok src dst body = true) {a b : Nat} (ha : a < 4294967296) (hb : b < 4294967296) (nosum : Bool) (id : Int) (tail : ByteArray) :
    iwrong (spkt a b src dst nosum body id ++ tail) = 0 ∧ iread (spkt a b src dst nosum body id ++ tail) = (0, id % 65536, true, false, 0, 64, 17, (a : Int), (b : Int), bs (udg a b src dst nosum body), 0) := by
  have := ibuilt_parse (body := bs (udg a b src dst nosum body)) tail (sok h a b nosum id) (isum_lt _ _ _ _ _ _ _ _) ha hb (spkt_sum h ha hb nosum id)
  rw [udg_nb] at this
  exact this
theorem udg_tells {src dst : Int} {body : ByteArray} (h : uok src dst body = true) {a b : Nat} (ha : a < 4294967296) (hb : b < 4294967296) (nosum : Bool) :
    uparse a b (bs (udg a b src dst nosum body)) = (src, dst, nosum, body, 0) := by
  obtain ⟨h1, h2, h3⟩ := uok_iff.1 h
  have hw : nosum = true ∨ foldN (wsum (headL a b 17 (((nb body).length + 8 : Nat) : Int)) + rest a b src.toNat dst.toNat nosum (nb body)) = 65535 := by
    cases nosum
    · refine Or.inr ?_
      have hl := nb_len body
      have hr := sum_right ha hb src.toNat dst.toNat (nb body) (by omega)
      have h17 := headL_wsum ha hb (n := (nb body).length + 8) (by omega)
      rw [fold_iff]
      exact ⟨by omega, hr⟩
    · exact Or.inl rfl
  have := built_parse (a := a) (b := b) (a' := a) (b' := b) (s := src.toNat) (d := dst.toNat) (⟨#[]⟩ : ByteArray) (by omega) (by omega) h3 hw
  rw [append_none] at this
  unfold udg
  rw [this]
  simp only [Prod.mk.injEq, and_true]
  exact ⟨by omega, by omega⟩
theorem made_nums {src dst : Int} {body : ByteArray} (h : uok src dst body = true) {a b : Nat} (ha : a < 4294967296) (hb : b < 4294967296) (nosum : Bool) (id : Int) (tail : ByteArray) :
    (nb (spkt a b src dst nosum body id ++ tail)).getD 8 0 = 64 ∧ (nb (spkt a b src dst nosum body id ++ tail)).getD 9 0 = 17 ∧ numAt (nb (spkt a b src dst nosum body id ++ tail)) 12 4 = a ∧ numAt (nb (spkt a b src dst nosum body id ++ tail)) 16 4 = b
      ∧ ¬ (numAt (nb (spkt a b src dst nosum body id ++ tail)) 6 2 / 8192 % 2 = 1 ∨ 0 < numAt (nb (spkt a b src dst nosum body id ++ tail)) 6 2 % 8192)
      ∧ (spkt a b src dst nosum body id ++ tail).extract 20 (numAt (nb (spkt a b src dst nosum body id ++ tail)) 2 2) = bs (udg a b src dst nosum body) := by
  have ht := (spkt_tells h ha hb nosum id tail).2
  generalize spkt a b src dst nosum body id ++ tail = s at *
  simp only [iread, Prod.mk.injEq] at ht
  obtain ⟨_, _, _, h3, h4, h5, h6, h7, h8, h9, _⟩ := ht
  have h3' := of_decide_eq_false h3
  exact ⟨by omega, by omega, by omega, by omega, by omega, h9⟩
theorem made_taken {src dst : Int} {body : ByteArray} (h : uok src dst body = true) {a b : Nat} (ha : a < 4294967296) (hb : b < 4294967296) (nosum : Bool) (id : Int) (tail : ByteArray) :
    spacket b (spkt a b src dst nosum body id ++ tail) = if dst = 4789 then (0, (a : Int), src, dst, nosum, body, 0, 0, 0, 0, 0) else tbad 7 := by
  obtain ⟨h1, h2, h3, h4, h5, h6⟩ := made_nums h ha hb nosum id tail
  have hw := (spkt_tells h ha hb nosum id tail).1
  have hp : perr b (spkt a b src dst nosum body id ++ tail) = none := by
    unfold perr
    rw [if_neg (fun q => q.elim (fun q => q hw) (fun q => by omega)), if_neg (fun q => q h4), if_neg h5]
  have hu : ud (spkt a b src dst nosum body id ++ tail) = (src, dst, nosum, body, 0) := by
    unfold ud
    rw [h6, h3, h4]
    exact udg_tells h ha hb nosum
  unfold spacket derr
  rw [hp, hu, h2, h3]
  by_cases hd : dst = 4789
  · rw [if_pos hd]
    simp [hd]
  · rw [if_neg hd]
    simp [hd]
theorem made_other {src dst : Int} {body : ByteArray} (h : uok src dst body = true) {a b c : Nat} (ha : a < 4294967296) (hb : b < 4294967296) (hc : b ≠ c) (nosum : Bool) (id : Int) (tail : ByteArray) :
    spacket c (spkt a b src dst nosum body id ++ tail) = tbad 2 := by
  obtain ⟨h1, h2, h3, h4, h5, h6⟩ := made_nums h ha hb nosum id tail
  have hw := (spkt_tells h ha hb nosum id tail).1
  have hp : perr c (spkt a b src dst nosum body id ++ tail) = some 2 := by
    unfold perr
    rw [if_neg (fun q => q.elim (fun q => q hw) (fun q => by omega)), if_pos (by omega)]
  unfold spacket
  rw [hp]
theorem wrong_taken {ip : Nat} {s : ByteArray} (h : iwrong s ≠ 0) : spacket ip s = tbad 4 := by
  have hp : perr ip s = some 4 := by
    unfold perr
    rw [if_pos (Or.inl h)]
  unfold spacket
  rw [hp]
theorem made_cut {src dst : Int} {body : ByteArray} (h : uok src dst body = true) {a b : Nat} (ha : a < 4294967296) (hb : b < 4294967296) (nosum : Bool) (id : Int) {k : Nat} (hk : k < 28 + body.size) :
    iwrong ((spkt a b src dst nosum body id).extract 0 k) = 60 := by
  have := short_wrong (body := bs (udg a b src dst nosum body)) (sok h a b nosum id) (isum_lt _ _ _ _ _ _ _ _) ha hb (spkt_sum h ha hb nosum id) (k := k) (by rw [udg_size]; omega)
  rw [udg_nb] at this
  exact this
theorem stake_ip {mac dst : Nat} (h : dst = mac ∨ dst = 281474976710655) (ip : Nat) (s : ByteArray) : stake mac ip dst 6 false 2048 s = spacket ip s := by
  unfold stake
  have h1 : notMine mac dst = false := by
    unfold notMine
    rcases h with rfl | rfl <;> simp
  have h2 : badFrame 6 false 2048 = false := by
    have : ownN 6 = true := by decide
    unfold badFrame
    rw [this]
    simp
  rw [h1, h2, if_neg (by decide), if_neg (by decide), if_neg (by decide)]
theorem size_hi : (⟨#[104, 105]⟩ : ByteArray).size = 2 := rfl
theorem station_fixed_ev : Ev (fun k => gangwaylaw20_fixed.f k) true := by
  unfold gangwaylaw20_fixed.f gangwaylaw20_plain.f
  have hok : uok 50000 4789 (⟨#[104, 105]⟩ : ByteArray) = true := uok_iff.2 ⟨by omega, by omega, by rw [size_hi]; omega⟩
  have e1 := smake_ok hok (most := 1500) (by rw [size_hi]; omega) 1 3 true 7
  have e2 := smake_long hok (most := 29) (by rw [size_hi]; omega) 1 3 true 7
  have q1 := made_taken hok (a := 1) (b := 3) (by omega) (by omega) true 7 (⟨#[]⟩ : ByteArray)
  have q2 := made_other hok (a := 1) (b := 3) (c := 4) (by omega) (by omega) (by omega) true 7 (⟨#[]⟩ : ByteArray)
  have q3 := wrong_taken (ip := 3) (show iwrong ((spkt 1 3 50000 4789 true (⟨#[104, 105]⟩ : ByteArray) 7).extract 0 19) ≠ 0 from by
    rw [made_cut hok (a := 1) (b := 3) (by omega) (by omega) true 7 (by omega)]
    decide)
  have hz := spkt_size 1 3 50000 4789 true (⟨#[104, 105]⟩ : ByteArray) 7
  rw [append_none, if_pos rfl] at q1
  rw [append_none] at q2
  rw [size_hi] at hz
  refine ev_some (Ev.bind (make_ev (a := 1) (b := 3) (by omega) (by omega) 50000 4789 true (⟨#[104, 105]⟩ : ByteArray) 7 1500) ?_)
  rw [e1]
  generalize spkt 1 3 50000 4789 true (⟨#[104, 105]⟩ : ByteArray) 7 = t at *
  have hc : (mn (t.size : Int) 19) = 19 := by
    unfold mn
    omega
  dsimp only
  rw [hc]
  refine Ev.bind (take_ev (mac := 2) (ip := 3) (dst := 2) (src := 6) (s := t) (by omega) (by omega) false 0 false 0 2048) ?_
  refine Ev.bind (take_ev (mac := 2) (ip := 4) (dst := 2) (src := 6) (s := t) (by omega) (by omega) false 0 false 0 2048) ?_
  refine Ev.bind (take_ev (mac := 10) (ip := 3) (dst := 2) (src := 6) (s := t) (by omega) (by omega) false 0 false 0 2048) ?_
  refine ev_pos (by omega) (ev_pos (by omega) ?_)
  refine Ev.bind (take_ev (mac := 2) (ip := 3) (dst := 2) (src := 6) (s := t.extract 0 19) (by omega) (by rw [ByteArray.size_extract]; omega) false 0 false 0 2048) ?_
  refine ev_some (Ev.bind (make_ev (a := 1) (b := 3) (by omega) (by omega) 50000 4789 true (⟨#[104, 105]⟩ : ByteArray) 7 29) ?_)
  rw [e2, stake_ip (Or.inl rfl), stake_ip (Or.inl rfl), stake_ip (Or.inl rfl), q1, q2, q3]
  have q4 : stake 10 3 2 6 false 2048 t = tbad 2 := by
    unfold stake
    rw [if_pos (by decide)]
  rw [q4]
  refine ev_pos (by omega) (ev_pos rfl (ev_some (ev_pos (by simp) (ev_pos rfl (ev_pos rfl (ev_pos rfl (ev_now rfl)))))))
end Go.Proofs.YtbkgaplldfilnaaDoor.P
