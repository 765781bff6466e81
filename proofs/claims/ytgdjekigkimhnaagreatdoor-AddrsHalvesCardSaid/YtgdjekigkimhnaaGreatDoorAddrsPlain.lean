/- The plain laws of the seat and what its printed functions compute, in one text. -/
import Derived.Test.YtgdjekigkimhnaaGreatDoorWMore
import Derived.Laws.BitsLemmas
import Derived.Test.YtgdjekigkimhnaaGreatDoorPx3
import Derived.Test.YtgdjekigkimhnaaGreatDoorPx13
import Derived.Test.YtgdjekigkimhnaaGreatDoorPx18
import Derived.Test.YtgdjekigkimhnaaGreatDoorPx11
import Derived.Lib.AtoiAll
import Derived.Lib.SplitLaws
import Derived.Lib.ReplaceLaws
import Derived.Lib.Replace
import Derived.Lib.ItoaNum
import Derived.Lib.Join
import Derived.Test.YtgdjekigkimhnaaGreatDoorPx14
import Derived.Test.YtgdjekigkimhnaaGreatDoorPx19
import Derived.Test.YtgdjekigkimhnaaGreatDoorPx17
import Derived.Test.YtgdjekigkimhnaaGreatDoorPx15
import Derived.Test.YtgdjekigkimhnaaGreatDoorPx0
import Derived.Test.YtgdjekigkimhnaaGreatDoorPx20
import Derived.Test.YtgdjekigkimhnaaGreatDoorPx21
namespace Go.Proofs.YtgdjekigkimhnaaGreatDoor.L
open Go Go.RowKit Go.Proofs.YtgdjekigkimhnaaGreatDoorW.PrintWords Go.Proofs.YtgdjekigkimhnaaGreatDoorW.PrintLast Go.Proofs.YtgdjekigkimhnaaGreatDoorW.PrintMore

/-- A text's bytes as natural numbers. -/
def nb (s : ByteArray) : List Nat := s.data.toList.map UInt8.toNat
/-- The text of such numbers. -/
def bs (l : List Nat) : ByteArray := ⟨(l.map UInt8.ofNat).toArray⟩
/-- All are bytes. -/
def Byt (l : List Nat) : Prop := ∀ x ∈ l, x < 256

theorem nb_len (s : ByteArray) : (nb s).length = s.size := by
  unfold nb
  rw [List.length_map, Array.length_toList]
  rfl
theorem bs_size (l : List Nat) : (bs l).size = l.length := by
  unfold bs
  simp [ByteArray.size]
theorem nb_byt (s : ByteArray) : Byt (nb s) := by
  intro x hx
  obtain ⟨b, _, rfl⟩ := List.mem_map.1 hx
  exact b.toNat_lt
theorem nb_bs {l : List Nat} (h : Byt l) : nb (bs l) = l := by
  unfold nb bs
  simp only [List.map_map]
  have : ∀ x ∈ l, (UInt8.toNat ∘ UInt8.ofNat) x = x := fun x hx => by
    have := h x hx
    simp [Nat.mod_eq_of_lt this]
  rw [List.map_congr_left this]
  simp
theorem bs_nb (s : ByteArray) : bs (nb s) = s := by
  unfold nb bs
  rw [List.map_map]
  have : (UInt8.ofNat ∘ UInt8.toNat) = id := by
    funext x
    simp
  rw [this]
  simp
theorem nb_inj {s t : ByteArray} (h : nb s = nb t) : s = t := by rw [← bs_nb s, h, bs_nb]
theorem bs_inj {l m : List Nat} (hl : Byt l) (hm : Byt m) (h : bs l = bs m) : l = m := by rw [← nb_bs hl, h, nb_bs hm]
theorem nb_append (s t : ByteArray) : nb (s ++ t) = nb s ++ nb t := by
  unfold nb
  rw [ByteArray.data_append, Array.toList_append, List.map_append]
theorem bs_append (l m : List Nat) : bs (l ++ m) = bs l ++ bs m := by
  unfold bs
  apply ByteArray.ext
  rw [ByteArray.data_append]
  simp
theorem nb_extract (s : ByteArray) (i j : Nat) : nb (s.extract i j) = ((nb s).take j).drop i := by
  unfold nb
  rw [ByteArray.data_extract, Array.toList_extract, List.extract_eq_take_drop]
  rw [← List.map_take, ← List.map_drop]
  congr 1
  rw [List.drop_take]
theorem nb_empty : nb (⟨#[]⟩ : ByteArray) = [] := rfl
theorem Byt.nil : Byt [] := fun _ h => by cases h
theorem Byt.cons {x : Nat} {l : List Nat} (hx : x < 256) (h : Byt l) : Byt (x :: l) := fun y hy => by
  rcases List.mem_cons.1 hy with rfl | hy
  · exact hx
  · exact h y hy
theorem Byt.append {l m : List Nat} (h : Byt l) (k : Byt m) : Byt (l ++ m) := fun x hx => by
  rcases List.mem_append.1 hx with hx | hx
  · exact h x hx
  · exact k x hx
theorem Byt.take {l : List Nat} (h : Byt l) (n : Nat) : Byt (l.take n) := fun x hx => h x (List.mem_of_mem_take hx)
theorem Byt.drop {l : List Nat} (h : Byt l) (n : Nat) : Byt (l.drop n) := fun x hx => h x (List.mem_of_mem_drop hx)
theorem bs_extract (l : List Nat) (i j : Nat) : (bs l).extract i j = bs ((l.take j).drop i) := by
  apply ByteArray.ext
  unfold bs
  rw [ByteArray.data_extract]
  apply Array.toList_inj.1
  rw [Array.toList_extract, List.extract_eq_take_drop]
  simp only
  rw [← List.map_drop, ← List.map_take, List.drop_take]
theorem bt_nb (s : ByteArray) (i : Int) : bt s i = ((nb s).getD i.toNat 0 : Nat) := by
  unfold bt nb
  by_cases h : i.toNat < s.size
  · rw [dif_pos h]
    rw [List.getD_eq_getElem?_getD, List.getElem?_map]
    have h2 : i.toNat < s.data.toList.length := by rw [Array.length_toList]; exact h
    rw [List.getElem?_eq_getElem h2]
    simp
    rfl
  · rw [dif_neg h]
    rw [List.getD_eq_getElem?_getD, List.getElem?_eq_none (by rw [List.length_map, Array.length_toList]; exact Nat.not_lt.1 h)]
    rfl
theorem bt_bs {l : List Nat} (h : Byt l) (i : Int) : bt (bs l) i = (l.getD i.toNat 0 : Nat) := by rw [bt_nb, nb_bs h]
theorem nb_nums (l : List Int) (h : ∀ x ∈ l, 0 ≤ x ∧ x < 256) : nb (strOfNums l) = l.map Int.toNat := by
  unfold nb strOfNums
  simp only [List.map_map]
  apply List.map_congr_left
  intro x hx
  have := h x hx
  simp only [Function.comp]
  rw [UInt8.toNat_ofNat']
  exact Nat.mod_eq_of_lt (by omega)
theorem nums_bs (l : List Int) (h : ∀ x ∈ l, 0 ≤ x ∧ x < 256) : strOfNums l = bs (l.map Int.toNat) := nb_inj (by
  rw [nb_nums l h, nb_bs]
  intro x hx
  obtain ⟨y, hy, rfl⟩ := List.mem_map.1 hx
  have := h y hy
  omega)
theorem size_bs_le {l : List Nat} {n : Nat} (h : l.length ≤ n) : (bs l).size ≤ n := by rw [bs_size]; exact h

theorem w64 {x : Int} (h0 : -9223372036854775808 ≤ x) (h1 : x ≤ 9223372036854775807) : wrap64 x = x := by
  unfold wrap64
  omega
theorem u64w {x : Int} (h0 : 0 ≤ x) (h1 : x ≤ 18446744073709551615) : IntKind.u64.wrap x = x := by
  have : IntKind.u64.wrap x = x % 18446744073709551616 := by simp [IntKind.wrap, IntKind.bits, IntKind.signed]
  rw [this]
  omega
theorem u64w_mod (x : Int) : IntKind.u64.wrap x = x % 18446744073709551616 := by simp [IntKind.wrap, IntKind.bits, IntKind.signed]
theorem u32w_mod (x : Int) : IntKind.u32.wrap x = x % 4294967296 := IntKind.wrap_u32 x

/-- 'x & (2^i - 1)' of whatever int, negative ones too. -/
theorem mask_nat (x : Int) (i : Nat) (hi : i ≤ 62) : Go.bits .and .i64 x (((2 ^ i - 1 : Nat) : Int)) = x % ((2 ^ i : Nat) : Int) := by
  have e0 : Go.bits .and .i64 x (((2 ^ i - 1 : Nat) : Int)) = IntKind.i64.wrap ((BitVec.ofInt 64 x &&& BitVec.ofInt 64 (((2 ^ i - 1 : Nat) : Int))).toNat : Int) := rfl
  rw [e0]
  have hp : 0 < 2 ^ i := Nat.two_pow_pos i
  have hle : 2 ^ i ≤ 2 ^ 62 := Nat.pow_le_pow_right (by decide) hi
  have hb : (BitVec.ofInt 64 ((2 ^ i - 1 : Nat) : Int)).toNat = 2 ^ i - 1 := by
    rw [BitVec.ofInt_natCast, BitVec.toNat_ofNat]
    exact Nat.mod_eq_of_lt (by omega)
  rw [BitVec.toNat_and, hb, Nat.and_two_pow_sub_one_eq_mod, BitVec.toNat_ofInt]
  have hm : 0 ≤ x % ((2 ^ 64 : Nat) : Int) := Int.emod_nonneg _ (by decide)
  have e : (((x % ((2 ^ 64 : Nat) : Int)).toNat % 2 ^ i : Nat) : Int) = x % ((2 ^ i : Nat) : Int) := by
    rw [Int.natCast_emod, Int.toNat_of_nonneg hm]
    have hd : ((2 ^ i : Nat) : Int) ∣ ((2 ^ 64 : Nat) : Int) := Int.natCast_dvd_natCast.2 (Nat.pow_dvd_pow 2 (by omega))
    exact Int.emod_emod_of_dvd x hd
  rw [e]
  have h1 : 0 ≤ x % ((2 ^ i : Nat) : Int) := Int.emod_nonneg _ (by omega)
  have h2 : x % ((2 ^ i : Nat) : Int) < ((2 ^ i : Nat) : Int) := Int.emod_lt_of_pos _ (by omega)
  rw [IntKind.wrap_i64]
  have h3 : ((2 ^ i : Nat) : Int) ≤ ((2 ^ 62 : Nat) : Int) := Int.ofNat_le.2 hle
  have h4 : ((2 ^ 62 : Nat) : Int) = 4611686018427387904 := by decide
  omega
theorem mask16 (x : Int) : Go.bits .and .i64 x 65535 = x % 65536 := mask_nat x 16 (by decide)
theorem mask4 (x : Int) : Go.bits .and .i64 x 15 = x % 16 := mask_nat x 4 (by decide)
theorem mask24 (x : Int) : Go.bits .and .i64 x 16777215 = x % 16777216 := mask_nat x 24 (by decide)
theorem mask3 (x : Int) : Go.bits .and .i64 x 7 = x % 8 := mask_nat x 3 (by decide)

/-- A number's n bytes, the greatest one first. -/
def be : Nat → Nat → List Nat
  | 0, _ => []
  | n + 1, v => be n (v / 256) ++ [v % 256]
/-- The number of bytes. -/
def num (l : List Nat) : Nat := l.foldl (fun v x => v * 256 + x) 0
theorem be_len (n v : Nat) : (be n v).length = n := by
  induction n generalizing v with
  | zero => rfl
  | succ n ih => simp [be, ih]
theorem be_byt (n v : Nat) : Byt (be n v) := by
  induction n generalizing v with
  | zero => exact Byt.nil
  | succ n ih => exact (ih _).append (Byt.cons (Nat.mod_lt _ (by decide)) Byt.nil)
theorem be_top (n v : Nat) : be (n + 1) v = (v / 256 ^ n % 256) :: be n v := by
  induction n generalizing v with
  | zero => simp [be]
  | succ n ih =>
    show be (n + 1) (v / 256) ++ [v % 256] = _
    rw [ih (v / 256), Nat.div_div_eq_div_mul, ← Nat.pow_succ']
    rfl
theorem num_snoc (l : List Nat) (x : Nat) : num (l ++ [x]) = num l * 256 + x := by simp [num, List.foldl_append]
theorem num_be (n v : Nat) : num (be n v) = v % 256 ^ n := by
  induction n generalizing v with
  | zero => simp [be, num, Nat.mod_one]
  | succ n ih =>
    rw [be, num_snoc, ih]
    have h := Nat.div_add_mod v 256
    have h2 := Nat.mod_mul (x := v) (a := 256) (b := 256 ^ n)
    rw [← Nat.pow_succ'] at h2
    rw [h2]
    omega
theorem num_lt {l : List Nat} (h : Byt l) : num l < 256 ^ l.length := by
  suffices ∀ (m : List Nat) (_ : Byt m) (a n : Nat), a < 256 ^ n → m.foldl (fun v x => v * 256 + x) a < 256 ^ (n + m.length) by
    simpa [num] using this l h 0 0 (by decide)
  intro m
  induction m with
  | nil => intro _ a n ha; simpa using ha
  | cons x r ih =>
    intro hm a n ha
    have hx : x < 256 := hm x (List.mem_cons_self)
    have := ih (fun y hy => hm y (List.mem_cons_of_mem _ hy)) (a * 256 + x) (n + 1) (by rw [Nat.pow_succ]; omega)
    simp only [List.foldl_cons, List.length_cons]
    rw [show n + (r.length + 1) = n + 1 + r.length by omega]
    exact this
theorem be_num (l : List Nat) (h : Byt l) : be l.length (num l) = l := by
  suffices ∀ n (m : List Nat), m.length = n → Byt m → be n (num m) = m from this _ l rfl h
  intro n
  induction n with
  | zero => intro m hm _; rw [List.eq_nil_of_length_eq_zero hm]; rfl
  | succ n ih =>
    intro m hm hb
    have hne : m ≠ [] := by
      intro e
      rw [e] at hm
      simp at hm
    obtain ⟨x, hx⟩ : ∃ x, m = m.dropLast ++ [x] := ⟨m.getLast hne, (List.dropLast_concat_getLast hne).symm⟩
    have hx2 : x < 256 := hb x (by rw [hx]; simp)
    have hl : m.dropLast.length = n := by simp [hm]
    have hb2 : Byt m.dropLast := fun y hy => hb y (by rw [hx]; exact List.mem_append_left _ hy)
    rw [hx, be, num_snoc]
    rw [show (num m.dropLast * 256 + x) / 256 = num m.dropLast by omega, show (num m.dropLast * 256 + x) % 256 = x by omega, ih _ hl hb2]
/-! ways of a function with rounds -/
theorem ev_succ {α : Type} {g : Nat → Option α} {r : α} (h : Ev (fun k => g (k + 1)) r) : Ev g r := Ev.step (fun _ => rfl) h
theorem ev_pos {α : Type} {c : Prop} [Decidable c] {f g : Nat → Option α} {r : α} (hc : c) (h : Ev f r) : Ev (fun k => if c then f k else g k) r := by
  simp only [if_pos hc]
  exact h
theorem ev_neg {α : Type} {c : Prop} [Decidable c] {f g : Nat → Option α} {r : α} (hc : ¬ c) (h : Ev g r) : Ev (fun k => if c then f k else g k) r := by
  simp only [if_neg hc]
  exact h
theorem ev_some {α β : Type} {f : Nat → α → Option β} {a : α} {r : β} (k : Ev (fun n => f n a) r) : Ev (fun n => (some a).bind (f n)) r := k
theorem ev_eq {α : Type} {g : Nat → Option α} {r s : α} (h : Ev g r) (e : r = s) : Ev g s := e ▸ h
theorem ev_now {α : Type} {r s : α} (e : r = s) : Ev (fun _ => some r) s := e ▸ Ev.now r
theorem ev_known {α : Type} {o : Option α} {r : α} (e : o = some r) : Ev (fun _ => o) r := e ▸ Ev.now r
theorem mn_le (a b : Int) : mn a b ≤ a ∧ mn a b ≤ b := by unfold mn; omega
theorem mn_nonneg {a b : Int} (ha : 0 ≤ a) (hb : 0 ≤ b) : 0 ≤ mn a b := by unfold mn; omega
/-- 's[:min(len(s), n)]' -/
theorem cut_size (s : ByteArray) (n : Nat) : (s.extract 0 (mn (s.size : Int) (n : Int)).toNat).size ≤ n := by
  rw [ByteArray.size_extract]
  have := mn_le (s.size : Int) (n : Int)
  omega
theorem size_nat (s : ByteArray) : (0 : Int) ≤ (s.size : Int) := Int.natCast_nonneg _
end Go.Proofs.YtgdjekigkimhnaaGreatDoor.L
namespace Go.Proofs.YtgdjekigkimhnaaGreatDoor.P
open Go Go.RowKit Go.Proofs.YtgdjekigkimhnaaGreatDoorW.PrintWords Go.Proofs.YtgdjekigkimhnaaGreatDoorW.PrintLast Go.Proofs.YtgdjekigkimhnaaGreatDoorW.PrintMore Go.Proofs.YtgdjekigkimhnaaGreatDoor.L

theorem shr_nat (v i : Nat) (hi : i ≤ 8) : shr .u64 (v : Int) (8 * (i : Int)) = ((v / 256 ^ i : Nat) : Int) := by
  unfold shr
  have e : min (8 * (i : Int)).toNat (IntKind.bits .u64) = 8 * i := by
    have h : IntKind.bits .u64 = 64 := rfl
    rw [h]
    omega
  rw [e, show (2 : Int) ^ (8 * i) = ((2 ^ (8 * i) : Nat) : Int) by norm_cast, Nat.pow_mul]
  rw [Int.natCast_ediv]
theorem put_l0_ev (v n : Nat) (hn : n ≤ 8) (d : Nat) : ∀ i : Nat, i ≤ n → n - i = d →
    Ev (fun k => octets_Put.l0 k (v : Int) (n : Int) (List.replicate (n - i) (0 : Int) ++ (be i v).map (fun (x : Nat) => (x : Int))) (n : Int) (i : Int)) (bs (be n v), 0) := by
  induction d with
  | zero =>
    intro i hi hd
    have e : i = n := by omega
    subst e
    refine ⟨1, fun k hk => ?_⟩
    obtain ⟨m, rfl⟩ : ∃ m, k = m + 1 := ⟨k - 1, by omega⟩
    simp only [octets_Put.l0]
    rw [if_neg (by omega)]
    rw [Nat.sub_self, List.replicate_zero, List.nil_append]
    have hb := be_byt i v
    rw [nums_bs _ (fun x hx => by
      obtain ⟨y, hy, rfl⟩ := List.mem_map.1 hx
      have := hb y hy
      omega)]
    rw [List.map_map]
    have : (Int.toNat ∘ fun (x : Nat) => (x : Int)) = id := by
      funext x
      simp
    rw [this, List.map_id]
  | succ d ih =>
    intro i hi hd
    have hlen : (List.replicate (n - i) (0 : Int) ++ (be i v).map (fun (x : Nat) => (x : Int))).length = n := by
      rw [List.length_append, List.length_replicate, List.length_map, be_len]
      omega
    refine Ev.step (f := fun k => octets_Put.l0 k (v : Int) (n : Int) (List.replicate (n - (i + 1)) (0 : Int) ++ (be (i + 1) v).map (fun (x : Nat) => (x : Int))) (n : Int) ((i + 1 : Nat) : Int)) (fun k => ?_) (ih (i + 1) (by omega) (by omega))
    simp only [octets_Put.l0]
    rw [if_pos (by omega), w64 (x := 8 * (i : Int)) (by omega) (by omega), if_pos (by omega), w64 (x := (n : Int) - 1) (by omega) (by omega), w64 (x := (n : Int) - 1 - (i : Int)) (by omega) (by omega), if_pos (by omega), hlen, if_pos (by omega), w64 (x := (i : Int) + 1) (by omega) (by omega)]
    rw [shr_nat v i (by omega)]
    have ei : ((n : Int) - 1 - (i : Int)).toNat = n - (i + 1) := by omega
    have es : (List.replicate (n - i) (0 : Int) ++ (be i v).map (fun (x : Nat) => (x : Int))).set (n - (i + 1)) (((v / 256 ^ i : Nat) : Int) % 256) = List.replicate (n - (i + 1)) (0 : Int) ++ (be (i + 1) v).map (fun (x : Nat) => (x : Int)) := by
      rw [be_top]
      rw [show n - i = (n - (i + 1)) + 1 by omega, List.replicate_succ', List.append_assoc]
      rw [List.set_append_right _ _ (by simp)]
      simp
    rw [ei, es]
    rfl
/-- Put of a number that goes. -/
theorem put_ev {v n : Nat} (h1 : 1 ≤ n) (h8 : n ≤ 8) (hv : v < 256 ^ n) : Ev (fun k => octets_Put.f k (v : Int) (n : Int)) (bs (be n v), 0) := by
  have hl : Ev (fun k => octets_Put.j0 k (v : Int) (n : Int) false) (bs (be n v), 0) := by
    refine Ev.step (f := fun k => octets_Put.l0 k (v : Int) (n : Int) (List.replicate n (0 : Int)) (n : Int) 0) (fun k => ?_) ?_
    · simp only [octets_Put.j0]
      rw [if_neg (by simp), if_pos (by omega), if_pos (by omega)]
      simp
    · have := put_l0_ev v n h8 n 0 (Nat.zero_le _) (by omega)
      simpa [be] using this
  unfold octets_Put.f
  by_cases h : n < 8
  · simp only [if_neg (show ¬ (n : Int) < 1 by omega), if_neg (show ¬ (n : Int) > 8 by omega), if_pos (show (n : Int) < 8 by omega), w64 (x := 8 * (n : Int)) (by omega) (by omega), if_pos (show 0 ≤ 8 * (n : Int) by omega), shr_nat v n h8, Nat.div_eq_of_lt hv]
    exact hl
  · simp only [if_neg (show ¬ (n : Int) < 1 by omega), if_neg (show ¬ (n : Int) > 8 by omega), if_neg (show ¬ (n : Int) < 8 by omega)]
    exact hl
theorem put_j0_bad (v n : Int) : Ev (fun k => octets_Put.j0 k v n true) ((⟨#[]⟩ : ByteArray), 1) := by
  refine ⟨1, fun k hk => ?_⟩
  obtain ⟨m, rfl⟩ : ∃ m, k = m + 1 := ⟨k - 1, by omega⟩
  simp only [octets_Put.j0, if_true]
/-- Put of one that does not go. -/
theorem put_bad_ev {v : Nat} {n : Int} (h : n < 1 ∨ 8 < n ∨ (n < 8 ∧ 256 ^ n.toNat ≤ v)) : Ev (fun k => octets_Put.f k (v : Int) n) ((⟨#[]⟩ : ByteArray), 1) := by
  unfold octets_Put.f
  by_cases h1 : n < 1
  · simp only [if_pos h1]
    exact put_j0_bad _ _
  · by_cases h8 : n > 8
    · simp only [if_neg h1, if_pos h8]
      exact put_j0_bad _ _
    · obtain ⟨m, rfl⟩ := Int.eq_ofNat_of_zero_le (show 0 ≤ n by omega)
      have h2 : (m : Int) < 8 ∧ 256 ^ m ≤ v := by
        rcases h with h | h | h
        · omega
        · omega
        · simpa using h
      have hd : 0 < v / 256 ^ m := Nat.div_pos h2.2 (Nat.pow_pos (by decide))
      have hne : (((v / 256 ^ m : Nat) : Int) != 0) = true := by
        rw [bne_iff_ne]
        omega
      simp only [if_neg h1, if_neg h8, if_pos h2.1, w64 (x := 8 * (m : Int)) (by omega) (by omega), if_pos (show 0 ≤ 8 * (m : Int) by omega), shr_nat v m (by omega), hne]
      exact put_j0_bad _ _

theorem bytes_l0_ev (n : Nat) (hn : n ≤ 1000) (d : Nat) : ∀ (i v : Nat) (s : ByteArray), v < 18446744073709551616 → i ≤ n → n - i = d → s.size = i →
    Ev (fun k => gangwayref01_Bytes.l0 k (v : Int) (n : Int) s (i : Int)) (bs (be d v) ++ s) := by
  induction d with
  | zero =>
    intro i v s hv hi hd hs
    refine ⟨1, fun k hk => ?_⟩
    obtain ⟨m, rfl⟩ : ∃ m, k = m + 1 := ⟨k - 1, by omega⟩
    simp only [gangwayref01_Bytes.l0]
    rw [if_neg (by omega)]
    congr 1
  | succ d ih =>
    intro i v s hv hi hd hs
    have e1 : strOfNums [((v : Int).tmod 256) % 256] = bs [v % 256] := by
      have hx : (v : Int).tmod 256 % 256 = ((v % 256 : Nat) : Int) := by
        rw [Int.tmod_eq_emod_of_nonneg (by omega)]
        omega
      rw [hx, nums_bs _ (by simp; omega), List.map_cons, List.map_nil, Int.toNat_natCast]
    refine Ev.step (f := fun k => gangwayref01_Bytes.l0 k ((v / 256 : Nat) : Int) (n : Int) (bs [v % 256] ++ s) ((i + 1 : Nat) : Int)) (fun k => ?_) ?_
    · simp only [gangwayref01_Bytes.l0, Option.bind_some]
      rw [if_pos (by omega), e1, bs_size, List.length_singleton, hs, if_pos (by omega), w64 (x := (i : Int) + 1) (by omega) (by omega)]
      rw [Int.tdiv_eq_ediv_of_nonneg (by omega), u64w (by omega) (by omega)]
      rfl
    · have := ih (i + 1) (v / 256) (bs [v % 256] ++ s) (by omega) (by omega) (by omega) (by rw [ByteArray.size_append, bs_size, hs]; simp; omega)
      rw [be, bs_append]
      rw [ByteArray.append_assoc]
      exact this
theorem bytes_ev {v n : Nat} (hn : n ≤ 1000) (hv : v < 18446744073709551616) : Ev (fun k => gangwayref01_Bytes.f k (v : Int) (n : Int)) (bs (be n v)) := by
  have := bytes_l0_ev n hn n 0 v (⟨#[]⟩ : ByteArray) hv (Nat.zero_le _) (by omega) rfl
  have e : bs (be n v) ++ (⟨#[]⟩ : ByteArray) = bs (be n v) := by
    apply ByteArray.ext
    rw [ByteArray.data_append]
    simp
  rw [e] at this
  exact this
end Go.Proofs.YtgdjekigkimhnaaGreatDoor.P
namespace Go.Proofs.YtgdjekigkimhnaaGreatDoor.P
open Go Go.RowKit Go.Proofs.YtgdjekigkimhnaaGreatDoorW.PrintWords Go.Proofs.YtgdjekigkimhnaaGreatDoorW.PrintLast Go.Proofs.YtgdjekigkimhnaaGreatDoorW.PrintMore Go.Proofs.YtgdjekigkimhnaaGreatDoor.L

theorem wraps_u64 (n : Int) (h₀ : 0 ≤ n) (h₁ : n < 2 ^ 64) : IntKind.u64.wrap n = n := u64w h₀ (by
  have : (2 : Int) ^ 64 = 18446744073709551616 := by decide
  omega)
theorem or_byte {v x : Nat} (hv : v * 256 < 18446744073709551616) (hx : x < 256) : Go.bits .or .u64 (IntKind.u64.wrap ((v : Int) * 256)) (IntKind.u64.wrap (x : Int)) = ((v * 256 + x : Nat) : Int) := by
  rw [u64w (by omega) (by omega), u64w (by omega) (by omega)]
  have e : (2 : Int) ^ 64 = 18446744073709551616 := by decide
  have e8 : (2 : Int) ^ 8 = 256 := by decide
  rw [Go.bits_join .u64 64 (by decide) wraps_u64 8 ((v : Int) * 256) (x : Int) (by omega) (by rw [e8]; omega) (by rw [e]; omega) (by omega) (by rw [e8]; omega) (by rw [e]; omega)]
  omega
theorem num_take_lt {l : List Nat} (h : Byt l) {m : Nat} (hm : m ≤ 7) : num (l.take m) * 256 < 18446744073709551616 := by
  have h1 := num_lt (h.take m)
  have h2 : (l.take m).length ≤ 7 := by rw [List.length_take]; omega
  have h3 : 256 ^ (l.take m).length ≤ 256 ^ 7 := Nat.pow_le_pow_right (by decide) h2
  have h4 : (256 : Nat) ^ 7 = 72057594037927936 := by decide
  omega
theorem take_succ_getD {l : List Nat} {i : Nat} (h : i < l.length) : l.take (i + 1) = l.take i ++ [l.getD i 0] := by
  rw [List.take_succ_eq_append_getElem h]
  simp [List.getD_eq_getElem?_getD, List.getElem?_eq_getElem h]
theorem getD_byte {l : List Nat} (h : Byt l) (i : Nat) : l.getD i 0 < 256 := by
  rw [List.getD_eq_getElem?_getD]
  by_cases hi : i < l.length
  · rw [List.getElem?_eq_getElem hi]
    exact h _ (List.getElem_mem hi)
  · rw [List.getElem?_eq_none (by omega)]
    decide
theorem get_l0_ev (t : ByteArray) (n : Nat) (hn : n ≤ 8) (ht : t.size = n) (d : Nat) : ∀ i : Nat, i ≤ n → n - i = d →
    Ev (fun k => octets_Get.l0 k t ((num ((nb t).take i) : Nat) : Int) (n : Int) (i : Int)) (((num (nb t) : Nat) : Int), 0) := by
  have hl := nb_len t
  have hby := nb_byt t
  induction d with
  | zero =>
    intro i hi hd
    refine ⟨1, fun k hk => ?_⟩
    obtain ⟨m, rfl⟩ : ∃ m, k = m + 1 := ⟨k - 1, by omega⟩
    simp only [octets_Get.l0]
    rw [if_neg (by omega), List.take_of_length_le (by omega)]
  | succ d ih =>
    intro i hi hd
    have hlt : i < (nb t).length := by omega
    have hb := getD_byte hby i
    have hv := num_take_lt (m := i) hby (by omega)
    refine Ev.step (f := fun k => octets_Get.l0 k t ((num ((nb t).take (i + 1)) : Nat) : Int) (n : Int) ((i + 1 : Nat) : Int)) (fun k => ?_) (ih (i + 1) (by omega) (by omega))
    simp only [octets_Get.l0]
    rw [if_pos (by omega), if_pos (by omega), if_pos (by omega), bt_nb, Int.toNat_natCast, or_byte hv hb, w64 (x := (i : Int) + 1) (by omega) (by omega), take_succ_getD hlt, num_snoc]
    rfl
/-- The number at a place of bytes. -/
def numAt (l : List Nat) (i n : Nat) : Nat := num ((l.drop i).take n)
theorem numAt_lt {l : List Nat} (h : Byt l) (i n : Nat) : numAt l i n < 256 ^ n := by
  have h1 := num_lt ((h.drop i).take n)
  have h2 : ((l.drop i).take n).length ≤ n := by rw [List.length_take]; omega
  have h3 : 256 ^ ((l.drop i).take n).length ≤ 256 ^ n := Nat.pow_le_pow_right (by decide) h2
  exact Nat.lt_of_lt_of_le h1 h3
end Go.Proofs.YtgdjekigkimhnaaGreatDoor.P
namespace Go.Proofs.YtgdjekigkimhnaaGreatDoor.P
open Go Go.RowKit Go.Proofs.YtgdjekigkimhnaaGreatDoorW.PrintWords Go.Proofs.YtgdjekigkimhnaaGreatDoorW.PrintLast Go.Proofs.YtgdjekigkimhnaaGreatDoorW.PrintMore Go.Proofs.YtgdjekigkimhnaaGreatDoor.L

/-- What Cut answers. -/
def gcut (s : ByteArray) (i n : Int) : ByteArray × Int :=
  if i < 0 then (⟨#[]⟩, 1) else if n < 0 then (⟨#[]⟩, 1) else if (s.size : Int) < i then (⟨#[]⟩, 10) else if (s.size : Int) - i < n then (⟨#[]⟩, 10) else (s.extract i.toNat (i + n).toNat, 0)
theorem number_at (p c : Int) (h0 : 0 ≤ c) (h1 : c < 64) : octets_number.f (some (p * 64 + c)) = some c := by
  show some ((p * 64 + c) % 64) = _
  congr 1
  omega
/-- Get of a number that is there. -/
theorem get_ev {s : ByteArray} {i n : Nat} (h1 : 1 ≤ n) (h8 : n ≤ 8) (hi : i + n ≤ s.size) (hs : s.size ≤ 1000000) : Ev (fun k => octets_Get.f k s (i : Int) (n : Int)) (((numAt (nb s) i n : Nat) : Int), 0) := by
  have hp : octets_part.f s (i : Int) (n : Int) = some (s.extract i (i + n), none) := by
    unfold octets_part.f
    rw [if_pos (by omega), if_neg (by omega), if_neg (by omega), if_neg (by omega), if_neg (by omega), Int.toNat_natCast, show ((i : Int) + (n : Int)).toNat = i + n by omega]
  have hn : nb (s.extract i (i + n)) = ((nb s).drop i).take n := by
    rw [nb_extract, List.drop_take, Nat.add_sub_cancel_left]
  unfold octets_Get.f
  refine ev_neg (by omega) ?_
  rw [decide_eq_false (by omega)]
  refine ev_succ ?_
  simp only [octets_Get.j0, Bool.false_eq_true, if_false]
  rw [hp]
  refine ev_some (ev_pos rfl ?_)
  have := get_l0_ev (s.extract i (i + n)) n h8 (by rw [ByteArray.size_extract]; omega) n 0 (Nat.zero_le _) rfl
  rw [hn] at this
  exact this
theorem get_fail {s : ByteArray} {i n : Int} {c : Int} (h1 : 1 ≤ n) (h8 : n ≤ 8) (h0 : 0 ≤ c) (hc : c < 64) (hp : octets_part.f s i n = some ((⟨#[]⟩ : ByteArray), some (i * 64 + c))) : Ev (fun k => octets_Get.f k s i n) (0, c) := by
  unfold octets_Get.f
  refine ev_neg (by omega) ?_
  rw [decide_eq_false (by omega)]
  refine ev_succ ?_
  simp only [octets_Get.j0, Bool.false_eq_true, if_false]
  rw [hp]
  refine ev_some (ev_neg (by simp) ?_)
  have := number_at i c h0 hc
  exact Ev.bind (ev_known this) (ev_now rfl)
/-- Get where there are too few bytes. -/
theorem get_short {s : ByteArray} {i n : Int} (h1 : 1 ≤ n) (h8 : n ≤ 8) (hi : 0 ≤ i) (hf : (s.size : Int) < i + n) (hs : s.size ≤ 1000000) : Ev (fun k => octets_Get.f k s i n) (0, 10) := by
  refine get_fail h1 h8 (by decide) (by decide) ?_
  unfold octets_part.f
  rw [if_pos (by omega), if_neg (by omega), if_neg (by omega)]
  by_cases h3 : (s.size : Int) < i
  · rw [if_pos h3]
  · rw [if_neg h3, if_pos (by omega)]
/-- Get ahead of the bytes. -/
theorem get_ahead {s : ByteArray} {i n : Int} (h1 : 1 ≤ n) (h8 : n ≤ 8) (hi : i < 0) (hs : s.size ≤ 1000000) : Ev (fun k => octets_Get.f k s i n) (0, 1) := by
  refine get_fail h1 h8 (by decide) (by decide) ?_
  unfold octets_part.f
  rw [if_pos (by omega), if_pos hi]
theorem a_numAt_be {p : List Nat} (q : List Nat) {n v i : Nat} (hp : p.length = i) (hv : v < 256 ^ n) : numAt (p ++ (be n v ++ q)) i n = v := by
  unfold numAt
  rw [List.drop_append_of_le_length (by rw [hp]; exact Nat.le_refl _), List.drop_of_length_le (by rw [hp]; exact Nat.le_refl _), List.nil_append, List.take_append_of_le_length (by rw [be_len]; exact Nat.le_refl _), List.take_of_length_le (by rw [be_len]; exact Nat.le_refl _), num_be]
  exact Nat.mod_eq_of_lt hv
theorem be_numAt {l : List Nat} (h : Byt l) {i n : Nat} (hl : i + n ≤ l.length) : be n (numAt l i n) = (l.drop i).take n := by
  have e := be_num ((l.drop i).take n) ((h.drop i).take n)
  have hn : ((l.drop i).take n).length = n := by
    rw [List.length_take, List.length_drop]
    omega
  rw [hn] at e
  exact e
theorem be_split (m n v : Nat) : be (m + n) v = be m (v / 256 ^ n) ++ be n v := by
  induction n generalizing v with
  | zero => simp [be]
  | succ n ih =>
    show be (m + n) (v / 256) ++ [v % 256] = _
    rw [ih, Nat.div_div_eq_div_mul, ← Nat.pow_succ', List.append_assoc]
    rfl
/-! digits -/
theorem hexD_lt {n : Nat} (h : n < 16) : hexD n < 256 := by
  unfold hexD
  split <;> omega
/-- Two digits a byte. -/
def hexN (l : List Nat) : List Nat := l.flatMap fun c => [hexD (c / 16), hexD (c % 16)]
theorem hexN_nil : hexN [] = [] := rfl
theorem hexN_cons (c : Nat) (l : List Nat) : hexN (c :: l) = hexD (c / 16) :: hexD (c % 16) :: hexN l := rfl
theorem hexN_snoc (l : List Nat) (c : Nat) : hexN (l ++ [c]) = hexN l ++ [hexD (c / 16), hexD (c % 16)] := by
  unfold hexN
  rw [List.flatMap_append]
  simp
theorem hexN_byt {l : List Nat} (h : Byt l) : Byt (hexN l) := by
  intro x hx
  unfold hexN at hx
  obtain ⟨c, hc, hx⟩ := List.mem_flatMap.1 hx
  have := h c hc
  have h1 := hexD_lt (n := c / 16) (by omega)
  have h2 := hexD_lt (n := c % 16) (by omega)
  simp at hx
  omega
theorem hexN_len (l : List Nat) : (hexN l).length = 2 * l.length := by
  induction l with
  | nil => rfl
  | cons c l ih =>
    rw [hexN_cons, List.length_cons, List.length_cons, ih, List.length_cons]
    omega
theorem hexL_nat (l : List UInt8) : (hexL l).map UInt8.toNat = hexN (l.map UInt8.toNat) := by
  induction l with
  | nil => rfl
  | cons c l ih =>
    have e : hexL (c :: l) = [UInt8.ofNat (hexD (c.toNat / 16)), UInt8.ofNat (hexD (c.toNat % 16))] ++ hexL l := rfl
    have hc := c.toNat_lt
    have h1 := hexD_lt (n := c.toNat / 16) (by omega)
    have h2 := hexD_lt (n := c.toNat % 16) (by omega)
    rw [e, List.map_append, ih]
    show _ = hexN (c.toNat :: l.map UInt8.toNat)
    rw [hexN_cons]
    simp only [List.map_cons, List.map_nil, UInt8.toNat_ofNat', List.cons_append, List.nil_append]
    rw [Nat.mod_eq_of_lt h1, Nat.mod_eq_of_lt h2]
theorem hex_eq {s : ByteArray} (hs : s.size ≤ 1000000) : octets_Hex.f s = some (bs (hexN (nb s))) := by
  unfold octets_Hex.f
  rw [if_pos (by omega)]
  congr 1
  apply nb_inj
  rw [nb_bs (hexN_byt (nb_byt s))]
  exact hexL_nat s.data.toList
/-- A digit's half byte; -1: it is none. -/
def hal (n : Nat) : Int := if 48 ≤ n ∧ n ≤ 57 then (n : Int) - 48 else if 97 ≤ n ∧ n ≤ 102 then (n : Int) - 87 else -1
theorem index_all : ∀ n < 256, Lib.indexByte digits_ (UInt8.ofNat n) = hal n := by decide +kernel
theorem index_hal (c : UInt8) : Lib.indexByte digits_ c = hal c.toNat := by
  have := index_all c.toNat c.toNat_lt
  rw [UInt8.ofNat_toNat] at this
  exact this
theorem join_all : ∀ a : Nat, a < 16 → ∀ b : Nat, b < 16 → Go.bits .or .i64 (wrap64 ((a : Int) * 16)) (b : Int) % 256 = ((a * 16 + b : Nat) : Int) := by decide +kernel
theorem hal_nat {n : Nat} (h : ¬ hal n < 0) : hal n = ((hal n).toNat : Int) ∧ (hal n).toNat < 16 := by
  unfold hal at *
  split <;> simp_all <;> omega
/-- Two digits' byte each. -/
def unhexN : List Nat → Option (List Nat)
  | a :: b :: r => if hal a < 0 ∨ hal b < 0 then none else (unhexN r).map fun l => ((hal a).toNat * 16 + (hal b).toNat) :: l
  | _ => some []
theorem unhexA_nat : ∀ (l : List UInt8) (acc : List Int), unhexA l acc = (unhexN (l.map UInt8.toNat)).map fun x => acc ++ x.map fun (y : Nat) => (y : Int)
  | [], acc => by simp [unhexA, unhexN]
  | [a], acc => by simp [unhexA, unhexN]
  | a :: b :: r, acc => by
    simp only [unhexA, List.map_cons, unhexN, index_hal]
    by_cases h1 : hal a.toNat < 0
    · rw [if_pos h1, if_pos (Or.inl h1)]
      rfl
    · rw [if_neg h1]
      by_cases h2 : hal b.toNat < 0
      · rw [if_pos h2, if_pos (Or.inr h2)]
        rfl
      · rw [if_neg h2, if_neg (by intro h; rcases h with h | h; exact h1 h; exact h2 h)]
        obtain ⟨e1, g1⟩ := hal_nat h1
        obtain ⟨e2, g2⟩ := hal_nat h2
        rw [unhexA_nat r]
        have e3 := join_all _ g1 _ g2
        rw [← e1, ← e2] at e3
        rw [e3]
        cases unhexN (r.map UInt8.toNat) with
        | none => rfl
        | some x => simp
theorem unhexN_byt : ∀ (l : List Nat) (x : List Nat), unhexN l = some x → Byt x
  | [], x, h => by
    simp only [unhexN, Option.some.injEq] at h
    rw [← h]
    exact Byt.nil
  | [_], x, h => by
    simp only [unhexN, Option.some.injEq] at h
    rw [← h]
    exact Byt.nil
  | a :: b :: r, x, h => by
    simp only [unhexN] at h
    by_cases h0 : hal a < 0 ∨ hal b < 0
    · rw [if_pos h0] at h
      cases h
    · rw [if_neg h0] at h
      obtain ⟨y, hy, rfl⟩ := Option.map_eq_some_iff.1 h
      have g1 := hal_nat (n := a) (fun h => h0 (Or.inl h))
      have g2 := hal_nat (n := b) (fun h => h0 (Or.inr h))
      exact Byt.cons (by omega) (unhexN_byt r y hy)
/-- What Unhex answers. -/
def gunhex (s : ByteArray) : ByteArray × Int := if s.size % 2 = 0 then (match unhexN (nb s) with | some l => (bs l, 0) | none => (⟨#[]⟩, 11)) else (⟨#[]⟩, 11)
theorem nums_nat {l : List Nat} (h : Byt l) : strOfNums (l.map fun (y : Nat) => (y : Int)) = bs l := by
  rw [nums_bs _ (fun x hx => by
    obtain ⟨y, hy, rfl⟩ := List.mem_map.1 hx
    have := h y hy
    omega)]
  rw [List.map_map]
  congr 1
  have : (Int.toNat ∘ fun (y : Nat) => (y : Int)) = id := by
    funext x
    simp
  rw [this, List.map_id]
theorem unhex_eq {s : ByteArray} (hs : s.size ≤ 1000000) : octets_Unhex.f s = some (gunhex s) := by
  unfold octets_Unhex.f gunhex
  rw [if_pos (by omega)]
  by_cases h : s.size % 2 = 0
  · rw [if_pos h, if_pos h, unhexA_nat]
    congr 1
    have e : s.data.toList.map UInt8.toNat = nb s := rfl
    rw [e]
    cases hu : unhexN (nb s) with
    | none => rfl
    | some l =>
      show (strOfNums ([] ++ _), (0 : Int)) = _
      rw [List.nil_append, nums_nat (unhexN_byt _ _ hu)]
  · rw [if_neg h, if_neg h]
theorem hal_hexD : ∀ n < 16, hal (hexD n) = (n : Int) := by decide
theorem unhex_hex : ∀ (l : List Nat), Byt l → unhexN (hexN l) = some l
  | [], _ => rfl
  | c :: l, h => by
    have hc : c < 256 := h c (List.mem_cons_self)
    rw [hexN_cons]
    simp only [unhexN]
    rw [hal_hexD (c / 16) (by omega), hal_hexD (c % 16) (by omega), if_neg (by omega), unhex_hex l (fun x hx => h x (List.mem_cons_of_mem _ hx))]
    show some ((((c / 16 : Nat) : Int).toNat * 16 + ((c % 16 : Nat) : Int).toNat) :: l) = some (c :: l)
    rw [Int.toNat_natCast, Int.toNat_natCast, show c / 16 * 16 + c % 16 = c by omega]
end Go.Proofs.YtgdjekigkimhnaaGreatDoor.P
namespace Go.Proofs.YtgdjekigkimhnaaGreatDoor.L
open Go

theorem pre_one (c x : UInt8) (r : List UInt8) : [c].isPrefixOf (x :: r) = (c == x) := by
  simp [List.isPrefixOf]
theorem index_at (c : UInt8) (b : List UInt8) : ∀ (a : List UInt8), c ∉ a → Lib.index (a ++ c :: b) [c] = a.length
  | [], _ => by
    show (if [c].isPrefixOf (c :: b) then 0 else if Lib.index b [c] == -1 then -1 else Lib.index b [c] + 1 : Int) = _
    rw [pre_one, beq_self_eq_true, if_pos rfl]
    rfl
  | x :: a, h => by
    have hx : ¬ c = x := fun e => h (e ▸ List.mem_cons_self)
    have ih := index_at c b a (fun h' => h (List.mem_cons_of_mem _ h'))
    show (if [c].isPrefixOf (x :: (a ++ c :: b)) then 0 else if Lib.index (a ++ c :: b) [c] == -1 then -1 else Lib.index (a ++ c :: b) [c] + 1 : Int) = _
    have hm : ((a.length : Int) == -1) = false := by rw [beq_eq_false_iff_ne]; omega
    rw [pre_one, beq_eq_false_iff_ne.2 hx, ih, hm, List.length_cons]
    simp
theorem index_not (c : UInt8) : ∀ (a : List UInt8), c ∉ a → Lib.index a [c] = -1
  | [], _ => rfl
  | x :: a, h => by
    have hx : ¬ c = x := fun e => h (e ▸ List.mem_cons_self)
    have ih := index_not c a (fun h' => h (List.mem_cons_of_mem _ h'))
    show (if [c].isPrefixOf (x :: a) then 0 else if Lib.index a [c] == -1 then -1 else Lib.index a [c] + 1 : Int) = _
    rw [pre_one, beq_eq_false_iff_ne.2 hx, ih]
    rfl
theorem split_step (c : UInt8) (k : Nat) (a b : List UInt8) (h : c ∉ a) : Lib.splitK [c] 0 (k + 1) (a ++ c :: b) = a :: Lib.splitK [c] 0 k b := by
  have hi := index_at c b a h
  have hm : ((a.length : Int) == -1) = false := by rw [beq_eq_false_iff_ne]; omega
  rw [Lib.splitK, hi, hm]
  have e1 : (a ++ c :: b).take ((a.length : Int).toNat + 0) = a := by simp
  have e2 : (a ++ c :: b).drop ((a.length : Int).toNat + [c].length) = b := by
    rw [Int.toNat_natCast, List.drop_append, List.drop_of_length_le (by simp)]
    simp
  rw [e1, e2]
  rfl
theorem split_four (c : UInt8) (a b d e : List UInt8) (ha : c ∉ a) (hb : c ∉ b) (hd : c ∉ d) (he : c ∉ e) :
    Lib.splitK [c] 0 (Lib.count (a ++ c :: (b ++ c :: (d ++ c :: e))) [c]) (a ++ c :: (b ++ c :: (d ++ c :: e))) = [a, b, d, e] := by
  have hn : Lib.count (a ++ c :: (b ++ c :: (d ++ c :: e))) [c] = 3 := by
    rw [Lib.count_one]
    simp [List.count_append, List.count_eq_zero.2 ha, List.count_eq_zero.2 hb, List.count_eq_zero.2 hd, List.count_eq_zero.2 he]
  rw [hn, split_step c 2 _ _ ha, split_step c 1 _ _ hb, split_step c 0 _ _ hd]
  rfl
theorem replace_out (c : UInt8) : ∀ (k : Nat) (s : List UInt8), s.count c = k → Lib.replaceK [c] [] k s = s.filter (· != c)
  | 0, s, h => by
    have hc : c ∉ s := List.count_eq_zero.1 h
    show s = _
    rw [List.filter_eq_self.2]
    intro x hx
    simp only [bne_iff_ne]
    exact fun e => hc (e ▸ hx)
  | k + 1, s, h => by
    have hc : c ∈ s := List.count_pos_iff.1 (by omega)
    obtain ⟨a, b, rfl, ha⟩ := List.eq_append_cons_of_mem hc
    have hb : b.count c = k := by
      rw [List.count_append, List.count_cons, List.count_eq_zero.2 ha, beq_self_eq_true, if_pos rfl] at h
      omega
    rw [Lib.replaceK_hit [c] [] k _ a.length (index_at c b a ha)]
    have e1 : (a ++ c :: b).take a.length = a := by simp
    have e2 : (a ++ c :: b).drop (a.length + [c].length) = b := by
      rw [List.drop_append, List.drop_of_length_le (by simp)]
      simp
    rw [e1, e2, replace_out c k b hb, List.filter_append, List.filter_cons]
    have e3 : a.filter (· != c) = a := by
      rw [List.filter_eq_self]
      intro x hx
      simp only [bne_iff_ne]
      exact fun e => ha (e ▸ hx)
    rw [e3]
    simp
theorem replaceAll_out (c : UInt8) (s : List UInt8) : Lib.replaceAll s [c] [] = s.filter (· != c) := by
  show (if ([c] == ([] : List UInt8)) = true then s else Lib.replaceK [c] [] (Lib.replaceNum s [c] (-1)) s) = _
  have e : Lib.replaceNum s [c] (-1) = s.count c := by
    unfold Lib.replaceNum
    rw [if_pos (Or.inl (by omega)), Lib.count_one]
  rw [e, replace_out c _ s rfl]
  rfl
/-- The digits of a byte, in base ten. -/
def dec3 (n : Nat) : List UInt8 := if n < 10 then [UInt8.ofNat (48 + n)] else if n < 100 then [UInt8.ofNat (48 + n / 10), UInt8.ofNat (48 + n % 10)] else [UInt8.ofNat (48 + n / 100), UInt8.ofNat (48 + n / 10 % 10), UInt8.ofNat (48 + n % 10)]
theorem decDigits_dec3 (n : Nat) (h : n < 1000) : Lib.decDigits n = dec3 n := by
  unfold dec3
  by_cases h1 : n < 10
  · rw [if_pos h1, Lib.decDigits, dif_pos h1]
  · rw [if_neg h1, Lib.decDigits, dif_neg h1]
    by_cases h2 : n < 100
    · rw [if_pos h2, Lib.decDigits, dif_pos (show n / 10 < 10 by omega)]
      rfl
    · rw [if_neg h2, Lib.decDigits, dif_neg (show ¬ n / 10 < 10 by omega), Lib.decDigits, dif_pos (show n / 10 / 10 < 10 by omega)]
      have e : n / 10 / 10 = n / 100 := by omega
      rw [e]
      rfl
theorem dec3_all : ∀ n : Fin 256, Lib.atoiAll (dec3 n.val) = .ok (n.val : Int) ∧ (46 : UInt8) ∉ dec3 n.val := by decide +kernel
theorem atoi_dec3 (n : Nat) (h : n < 256) : Lib.atoiAll (dec3 n) = .ok (n : Int) := (dec3_all ⟨n, h⟩).1
theorem dot_dec3 (n : Nat) (h : n < 256) : (46 : UInt8) ∉ dec3 n := (dec3_all ⟨n, h⟩).2
end Go.Proofs.YtgdjekigkimhnaaGreatDoor.L
namespace Go.Proofs.YtgdjekigkimhnaaGreatDoor.P
open Go Go.RowKit Go.Proofs.YtgdjekigkimhnaaGreatDoorW.PrintWords Go.Proofs.YtgdjekigkimhnaaGreatDoorW.PrintLast Go.Proofs.YtgdjekigkimhnaaGreatDoorW.PrintMore Go.Proofs.YtgdjekigkimhnaaGreatDoor.L

theorem toList_nb (s : ByteArray) : s.toList.map UInt8.toNat = nb s := by
  rw [ByteArray.toList_eq]
  rfl
theorem list_nb (s : ByteArray) (l : List UInt8) : s.toList = l ↔ nb s = l.map UInt8.toNat := by
  rw [← toList_nb]
  constructor
  · intro h
    rw [h]
  · intro h
    exact List.map_inj_right (fun a b h => UInt8.toNat_inj.1 h) |>.1 h
theorem list_eq (s t : ByteArray) : s.toList = t.toList ↔ nb s = nb t := by rw [list_nb, toList_nb]
/-- A MAC address's bytes' text. -/
def mac1 (s : List Nat) (b : Nat) : List Nat := s ++ (if s.isEmpty then [] else [58]) ++ hexN [b]
def macN (l : List Nat) : List Nat := l.foldl mac1 []
theorem macN_snoc (l : List Nat) (b : Nat) : macN (l ++ [b]) = mac1 (macN l) b := by
  unfold macN
  rw [List.foldl_append]
  rfl
theorem macN_six (a b c d e f : Nat) : macN [a, b, c, d, e, f] = [hexD (a / 16), hexD (a % 16), 58, hexD (b / 16), hexD (b % 16), 58, hexD (c / 16), hexD (c % 16), 58, hexD (d / 16), hexD (d % 16), 58, hexD (e / 16), hexD (e % 16), 58, hexD (f / 16), hexD (f % 16)] := rfl
theorem six_of {l : List Nat} (h : l.length = 6) : ∃ a b c d e f, l = [a, b, c, d, e, f] := by
  match l, h with
  | [a, b, c, d, e, f], _ => exact ⟨a, b, c, d, e, f, rfl⟩
theorem macN_cons (l : List Nat) (h : l ≠ []) : (macN l).isEmpty = false := by
  obtain ⟨x, hx⟩ : ∃ x, l = l.dropLast ++ [x] := ⟨l.getLast h, (List.dropLast_concat_getLast h).symm⟩
  rw [hx, macN_snoc]
  unfold mac1
  rw [hexN_cons]
  simp
theorem macN_len (l : List Nat) : (macN l).length = 3 * l.length - 1 := by
  have g : ∀ (l s : List Nat), s.isEmpty = false → (l.foldl mac1 s).length = s.length + 3 * l.length := by
    intro l
    induction l with
    | nil => intro s _; simp
    | cons x l ih =>
      intro s hs
      rw [List.foldl_cons, ih]
      · unfold mac1
        rw [hs, hexN_cons, hexN_nil]
        simp
        omega
      · unfold mac1
        rw [hexN_cons]
        simp
  match l with
  | [] => rfl
  | x :: l =>
    show (l.foldl mac1 (mac1 [] x)).length = _
    rw [g _ _ (by unfold mac1; rw [hexN_cons]; simp)]
    unfold mac1
    rw [hexN_cons, hexN_nil]
    simp
    omega
theorem macN_byt {l : List Nat} (h : Byt l) : Byt (macN l) := by
  have g : ∀ (l s : List Nat), Byt l → Byt s → Byt (l.foldl mac1 s) := by
    intro l
    induction l with
    | nil => intro s _ hs; exact hs
    | cons x l ih =>
      intro s hl hs
      refine ih _ (fun y hy => hl y (List.mem_cons_of_mem _ hy)) ?_
      unfold mac1
      refine (hs.append ?_).append (hexN_byt (Byt.cons (hl x List.mem_cons_self) Byt.nil))
      split
      · exact Byt.nil
      · exact Byt.cons (by decide) Byt.nil
  exact g l [] h Byt.nil
theorem be_mod (n v : Nat) : be n (v % 256 ^ n) = be n v := by
  have := be_num (be n v) (be_byt n v)
  rw [be_len, num_be] at this
  exact this
theorem one_at {l : List Nat} {i : Nat} (h : i < l.length) : (bs l).extract i (i + 1) = bs [l.getD i 0] := by
  rw [bs_extract, take_succ_getD h, List.drop_append, List.drop_of_length_le (by rw [List.length_take]; omega)]
  rw [List.length_take, Nat.min_eq_left (by omega), Nat.sub_self]
  rfl
theorem hex_out (_ : Nat) : ∀ n, n < 16 → hexD n ≠ 58 := by decide
/-! the program's Mac -/
theorem join_six {l : List Nat} (h : l.length = 6) : joined_ (l.map fun b => bs (hexN [b])) (⟨#[58]⟩ : ByteArray) = (macN l).map UInt8.ofNat := by
  obtain ⟨a, b, c, d, e, f, rfl⟩ := six_of h
  rfl
theorem mac_l0 {l : List Nat} (hl : l.length = 6) (hb : Byt l) (d : Nat) : ∀ i : Nat, i ≤ 6 → 6 - i = d →
    Ev (fun k => addrs_Mac.l0 k (bs l) ((l.take i).map fun b => bs (hexN [b])) (i : Int)) (bs (macN l)) := by
  induction d with
  | zero =>
    intro i hi hd
    have e : i = 6 := by omega
    subst e
    refine ev_succ ?_
    simp only [addrs_Mac.l0]
    refine ev_neg (by omega) ?_
    rw [List.take_of_length_le (by omega)]
    have hj := join_six hl
    have e2 : strings_Join.f (l.map fun b => bs (hexN [b])) (⟨#[58]⟩ : ByteArray) = some (bs (macN l)) := by
      unfold strings_Join.f
      rw [if_pos (by rw [List.length_map]; omega), hj, if_pos (by rw [List.length_map, macN_len]; omega)]
      rfl
    rw [e2]
    exact ev_some (ev_now rfl)
  | succ d ih =>
    intro i hi hd
    have hlt : i < l.length := by omega
    have hx := getD_byte hb i
    refine ev_succ ?_
    simp only [addrs_Mac.l0]
    rw [w64 (x := (i : Int) + 1) (by omega) (by omega)]
    refine ev_pos (by omega) (ev_pos (by omega) (ev_pos (by omega) (ev_pos (by rw [bs_size]; omega) ?_)))
    rw [Int.toNat_natCast, show ((i : Int) + 1).toNat = i + 1 by omega, one_at hlt, hex_eq (by rw [bs_size]; simp), nb_bs (Byt.cons hx Byt.nil)]
    refine ev_some (ev_pos (by rw [List.length_map, List.length_take]; omega) ?_)
    have := ih (i + 1) (by omega) (by omega)
    rw [take_succ_getD hlt, List.map_append] at this
    exact this
theorem mac_ev (m : Nat) : Ev (fun k => addrs_Mac.f k (m : Int)) (bs (macN (be 6 m))) := by
  unfold addrs_Mac.f
  have e : Int.tmod (m : Int) 281474976710656 = ((m % 281474976710656 : Nat) : Int) := by
    rw [Int.tmod_eq_emod_of_nonneg (by omega)]
    omega
  rw [e]
  have h := put_ev (v := m % 281474976710656) (n := 6) (by decide) (by decide) (Nat.lt_of_lt_of_le (Nat.mod_lt _ (by decide)) (by decide))
  have e6 : be 6 (m % 281474976710656) = be 6 m := be_mod 6 m
  rw [e6] at h
  refine Ev.bind h ?_
  exact mac_l0 (be_len 6 m) (be_byt 6 m) 6 0 (by decide) rfl
/-! the program's ReadMac -/
theorem nb_filter (s : ByteArray) (c : UInt8) : nb ⟨(s.data.toList.filter (· != c)).toArray⟩ = (nb s).filter (· != c.toNat) := by
  show (s.data.toList.filter (· != c)).map UInt8.toNat = (s.data.toList.map UInt8.toNat).filter (· != c.toNat)
  rw [List.filter_map]
  congr 1
  apply List.filter_congr
  intro x _
  show (x != c) = (x.toNat != c.toNat)
  rw [Bool.eq_iff_iff, bne_iff_ne, bne_iff_ne]
  exact not_congr ⟨fun h => h ▸ rfl, fun h => UInt8.toNat_inj.1 h⟩
theorem outC_eq {s : ByteArray} (hs : s.size ≤ 1000) : ∃ t, strings_ReplaceAll.f s (⟨#[58]⟩ : ByteArray) (⟨#[]⟩ : ByteArray) = some t ∧ nb t = (nb s).filter (· != 58) ∧ t.size ≤ 1000 := by
  refine ⟨⟨(s.data.toList.filter (· != 58)).toArray⟩, ?_, nb_filter s 58, ?_⟩
  · unfold strings_ReplaceAll.f
    rw [if_pos ⟨by omega, by decide, by decide⟩]
    have := replaceAll_out 58 s.data.toList
    show some (⟨(Lib.replaceAll s.data.toList [58] []).toArray⟩ : ByteArray) = _
    rw [this]
  · have := List.length_filter_le (· != (58 : UInt8)) s.data.toList
    have e : s.data.toList.length = s.size := by rw [Array.length_toList]; rfl
    show ((s.data.toList.filter (· != 58)).toArray).size ≤ 1000
    rw [List.size_toArray]
    omega
theorem filter_mac {l : List Nat} (h : l.length = 6) (hb : Byt l) : (macN l).filter (· != 58) = hexN l := by
  obtain ⟨a, b, c, d, e, f, rfl⟩ := six_of h
  rw [macN_six]
  have g : ∀ x, x ∈ [a, b, c, d, e, f] → (hexD (x / 16) != 58) = true ∧ (hexD (x % 16) != 58) = true := fun x hx => by
    have := hb x hx
    exact ⟨bne_iff_ne.2 (hex_out 0 _ (by omega)), bne_iff_ne.2 (hex_out 0 _ (by omega))⟩
  have ga := g a (by simp)
  have gb := g b (by simp)
  have gc := g c (by simp)
  have gd := g d (by simp)
  have ge := g e (by simp)
  have gf := g f (by simp)
  simp only [List.filter_cons, ga.1, ga.2, gb.1, gb.2, gc.1, gc.2, gd.1, gd.2, ge.1, ge.2, gf.1, gf.2, if_true, List.filter_nil, bne_self_eq_false, Bool.false_eq_true, if_false]
  rfl
/-- A text is a MAC address's, of these bytes. -/
def MacOf (s : ByteArray) (l : List Nat) : Prop := Byt l ∧ l.length = 6 ∧ nb s = macN l
theorem MacOf.unhex {s : ByteArray} {l : List Nat} (h : MacOf s l) : unhexN ((nb s).filter (· != 58)) = some l := by
  rw [h.2.2, filter_mac h.2.1 h.1, unhex_hex l h.1]
theorem readmac_end (s : ByteArray) {l : List Nat} (hb : Byt l) (h6 : l.length = 6) : Ev (fun k => addrs_ReadMac.j0 k s (bs l) ((((bs l).size : Nat) : Int) != 6)) (if nb s = macN l then (((num l : Nat) : Int), 0) else (0, 20)) := by
  refine ev_succ ?_
  simp only [addrs_ReadMac.j0]
  have e : ((((bs l).size : Nat) : Int) != 6) = false := by rw [bs_size, h6]; rfl
  rw [e]
  have hg := get_ev (s := bs l) (i := 0) (n := 6) (by decide) (by decide) (by rw [bs_size, h6]; decide) (by rw [bs_size, h6]; decide)
  have en : numAt (nb (bs l)) 0 6 = num l := by
    unfold numAt
    rw [nb_bs hb, List.drop_zero, List.take_of_length_le (by omega)]
  rw [en] at hg
  refine ev_neg (by decide) (Ev.bind hg ?_)
  have hm := mac_ev (num l)
  have eb : be 6 (num l) = l := by
    have := be_num l hb
    rw [h6] at this
    exact this
  rw [eb] at hm
  refine Ev.bind hm ?_
  by_cases h : nb s = macN l
  · rw [if_pos h]
    refine ev_pos ((list_eq _ _).2 ?_) (ev_now rfl)
    rw [nb_bs (macN_byt hb), h]
  · rw [if_neg h]
    refine ev_neg (fun h' => h ?_) (ev_now rfl)
    have := (list_eq _ _).1 h'
    rw [nb_bs (macN_byt hb)] at this
    exact this.symm
theorem readmac_j0_no (s b : ByteArray) : Ev (fun k => addrs_ReadMac.j0 k s b true) (0, 20) := by
  refine ev_succ ?_
  simp only [addrs_ReadMac.j0]
  exact ev_pos trivial (ev_now rfl)
theorem readmac_ok {s : ByteArray} {l : List Nat} (h : MacOf s l) : Ev (fun k => addrs_ReadMac.f k s) (((num l : Nat) : Int), 0) := by
  have hsz : s.size = 17 := by rw [← nb_len, h.2.2, macN_len, h.2.1]
  obtain ⟨t, ht, hn, hz⟩ := outC_eq (s := s) (by omega)
  have hu := h.unhex
  have hl : t.size = 12 := by rw [← nb_len, hn, h.2.2, filter_mac h.2.1 h.1, hexN_len, h.2.1]
  unfold addrs_ReadMac.f
  rw [ht]
  refine ev_some ?_
  rw [unhex_eq (by omega)]
  have hg : gunhex t = (bs l, 0) := by
    unfold gunhex
    rw [if_pos (by omega), hn, hu]
  rw [hg]
  refine ev_some (ev_pos rfl ?_)
  have := readmac_end s h.1 h.2.1
  rw [if_pos h.2.2] at this
  exact this
theorem readmac_no {s : ByteArray} (hs : s.size ≤ 1000) (h : ∀ l, ¬ MacOf s l) : Ev (fun k => addrs_ReadMac.f k s) (0, 20) := by
  obtain ⟨t, ht, hn, hz⟩ := outC_eq (s := s) (by omega)
  unfold addrs_ReadMac.f
  rw [ht]
  refine ev_some ?_
  rw [unhex_eq (by omega)]
  refine ev_some ?_
  unfold gunhex
  by_cases h2 : t.size % 2 = 0
  · rw [if_pos h2]
    cases hu : unhexN (nb t) with
    | none => exact ev_neg (by decide) (readmac_j0_no _ _)
    | some l =>
      refine ev_pos rfl ?_
      have hb := unhexN_byt _ _ hu
      by_cases h6 : l.length = 6
      · have := readmac_end s hb h6
        rw [if_neg (fun e => h l ⟨hb, h6, e⟩)] at this
        exact this
      · have e : ((((bs l).size : Nat) : Int) != 6) = true := by
          rw [bs_size, bne_iff_ne]
          omega
        show Ev (fun k => addrs_ReadMac.j0 k s (bs l) ((((bs l).size : Nat) : Int) != 6)) _
        rw [e]
        exact readmac_j0_no _ _
  · rw [if_neg h2]
    exact ev_neg (by decide) (readmac_j0_no _ _)
end Go.Proofs.YtgdjekigkimhnaaGreatDoor.P
namespace Go.Proofs.YtgdjekigkimhnaaGreatDoor.P
open Go Go.RowKit Go.Proofs.YtgdjekigkimhnaaGreatDoorW.PrintWords Go.Proofs.YtgdjekigkimhnaaGreatDoorW.PrintLast Go.Proofs.YtgdjekigkimhnaaGreatDoorW.PrintMore Go.Proofs.YtgdjekigkimhnaaGreatDoor.L

/-- A byte's digits in base ten, as numbers. -/
def decN (n : Nat) : List Nat := if n < 10 then [48 + n] else if n < 100 then [48 + n / 10, 48 + n % 10] else [48 + n / 100, 48 + n / 10 % 10, 48 + n % 10]
theorem dec3_decN : ∀ n : Fin 256, dec3 n.val = (decN n.val).map UInt8.ofNat ∧ (decN n.val).all (· < 256) = true := by decide +kernel
theorem decN_byt {n : Nat} (h : n < 256) : Byt (decN n) := fun x hx => by
  have := List.all_eq_true.1 (dec3_decN ⟨n, h⟩).2 x hx
  simpa using this
theorem dec_bs {n : Nat} (h : n < 256) : (⟨(Lib.decDigits n).toArray⟩ : ByteArray) = bs (decN n) := by
  rw [decDigits_dec3 n (by omega), (dec3_decN ⟨n, h⟩).1]
  rfl
theorem decN_len (n : Nat) : 1 ≤ (decN n).length ∧ (decN n).length ≤ 3 := by
  unfold decN
  split
  · simp
  · split <;> simp
/-- An address's text, of its bytes. -/
def ip4 (a b c d : Nat) : List Nat := decN a ++ 46 :: (decN b ++ 46 :: (decN c ++ 46 :: decN d))
def ipT (v : Nat) : List Nat := ip4 (v / 16777216) (v / 65536 % 256) (v / 256 % 256) (v % 256)
theorem ip4_byt {a b c d : Nat} (ha : a < 256) (hb : b < 256) (hc : c < 256) (hd : d < 256) : Byt (ip4 a b c d) :=
  (decN_byt ha).append (Byt.cons (by decide) ((decN_byt hb).append (Byt.cons (by decide) ((decN_byt hc).append (Byt.cons (by decide) (decN_byt hd))))))
theorem ipT_byt {v : Nat} (h : v < 4294967296) : Byt (ipT v) := ip4_byt (by omega) (by omega) (by omega) (by omega)
theorem ip4_len (a b c d : Nat) : (ip4 a b c d).length ≤ 15 := by
  have ha := decN_len a
  have hb := decN_len b
  have hc := decN_len c
  have hd := decN_len d
  unfold ip4
  simp only [List.length_append, List.length_cons]
  omega
/-! the program's Ip -/
theorem shr32 (v n : Nat) (hn : n ≤ 32) : shr .u32 (v : Int) (n : Int) = ((v / 2 ^ n : Nat) : Int) := by
  unfold shr
  have e : min (n : Int).toNat (IntKind.bits .u32) = n := by
    have h : IntKind.bits .u32 = 32 := rfl
    rw [h]
    omega
  rw [e, show (2 : Int) ^ n = ((2 ^ n : Nat) : Int) by norm_cast]
  rw [Int.natCast_ediv]
theorem wraps_u32 (n : Int) (h₀ : 0 ≤ n) (h₁ : n < 2 ^ 32) : IntKind.u32.wrap n = n := by
  have e : (2 : Int) ^ 32 = 4294967296 := by decide
  rw [IntKind.wrap_u32]
  omega
def ipByte (v i : Nat) : Nat := v / 2 ^ (8 * (3 - i)) % 256
theorem ip_l0 {v : Nat} (d : Nat) : ∀ i : Nat, i ≤ 4 → 4 - i = d →
    Ev (fun k => addrs_Ip.l0 k (v : Int) ((List.range i).map fun j => bs (decN (ipByte v j))) (i : Int)) (bs (ip4 (ipByte v 0) (ipByte v 1) (ipByte v 2) (ipByte v 3))) := by
  have hb : ∀ i, ipByte v i < 256 := fun i => Nat.mod_lt _ (by decide)
  induction d with
  | zero =>
    intro i hi hd
    have e : i = 4 := by omega
    subst e
    refine ev_succ ?_
    simp only [addrs_Ip.l0]
    refine ev_neg (by omega) ?_
    have hj : joined_ ((List.range 4).map fun j => bs (decN (ipByte v j))) (⟨#[46]⟩ : ByteArray) = (ip4 (ipByte v 0) (ipByte v 1) (ipByte v 2) (ipByte v 3)).map UInt8.ofNat := by
      show Lib.join [(decN (ipByte v 0)).map UInt8.ofNat, (decN (ipByte v 1)).map UInt8.ofNat, (decN (ipByte v 2)).map UInt8.ofNat, (decN (ipByte v 3)).map UInt8.ofNat] [46] = _
      rw [Lib.join_cons]
      unfold ip4 Lib.joinTail
      simp [List.map_append]
    have e2 : strings_Join.f ((List.range 4).map fun j => bs (decN (ipByte v j))) (⟨#[46]⟩ : ByteArray) = some (bs (ip4 (ipByte v 0) (ipByte v 1) (ipByte v 2) (ipByte v 3))) := by
      unfold strings_Join.f
      have := ip4_len (ipByte v 0) (ipByte v 1) (ipByte v 2) (ipByte v 3)
      rw [if_pos (by simp), hj, if_pos (by rw [List.length_map]; omega)]
      rfl
    rw [e2]
    exact ev_some (ev_now rfl)
  | succ d ih =>
    intro i hi hd
    refine ev_succ ?_
    simp only [addrs_Ip.l0]
    rw [w64 (x := (3 : Int) - (i : Int)) (by omega) (by omega), w64 (x := 8 * ((3 : Int) - (i : Int))) (by omega) (by omega), w64 (x := (i : Int) + 1) (by omega) (by omega)]
    refine ev_pos (by omega) (ev_pos (by omega) ?_)
    have e8 : 8 * ((3 : Int) - (i : Int)) = ((8 * (3 - i) : Nat) : Int) := by omega
    rw [e8, shr32 v _ (by omega)]
    have e9 : ((v / 2 ^ (8 * (3 - i)) : Nat) : Int) % 256 = ((ipByte v i : Nat) : Int) := by
      unfold ipByte
      omega
    rw [e9]
    have hx := hb i
    have ei : strconv_Itoa.f ((ipByte v i : Nat) : Int) = some (bs (decN (ipByte v i))) := by
      unfold strconv_Itoa.f
      rw [if_pos (by omega), Int.toNat_natCast, dec_bs hx]
    rw [ei]
    refine ev_some (ev_pos (by rw [List.length_map, List.length_range]; omega) ?_)
    have := ih (i + 1) (by omega) (by omega)
    rw [List.range_succ, List.map_append] at this
    exact this
theorem ip_ev {v : Nat} (hv : v < 4294967296) : Ev (fun k => addrs_Ip.f k (v : Int)) (bs (ipT v)) := by
  have := ip_l0 (v := v) 4 0 (by decide) rfl
  have e : ip4 (ipByte v 0) (ipByte v 1) (ipByte v 2) (ipByte v 3) = ipT v := by
    unfold ipT ipByte
    congr 1 <;> omega
  rw [e] at this
  exact this
/-! the program's ReadIp -/
theorem or_range (x y : Int) : 0 ≤ Go.bits .or .u32 x y ∧ Go.bits .or .u32 x y < 4294967296 := by
  have e : Go.bits .or .u32 x y = IntKind.u32.wrap ((BitVec.ofInt 32 x ||| BitVec.ofInt 32 y).toNat : Int) := rfl
  rw [e, IntKind.wrap_u32]
  omega
/-- The number that the pieces make. -/
def foldIp : Int → List ByteArray → Int
  | x, [] => x
  | x, p :: r => foldIp (Go.bits .or .u32 ((x * 256) % 4294967296) ((atoiV p.data.toList) % 256)) r
theorem foldIp_cons (x : Int) (p : ByteArray) (r : List ByteArray) : foldIp x (p :: r) = foldIp (Go.bits .or .u32 ((x * 256) % 4294967296) ((atoiV p.data.toList) % 256)) r := rfl
theorem foldIp_range : ∀ (l : List ByteArray) (x : Int), 0 ≤ x → x < 4294967296 → 0 ≤ foldIp x l ∧ foldIp x l < 4294967296
  | [], _, h0, h1 => ⟨h0, h1⟩
  | _ :: r, _, _, _ => foldIp_range r _ (or_range _ _).1 (or_range _ _).2
theorem rd_drop (l : List ByteArray) (i : Nat) (h : i < l.length) : l.drop i = rdOf ByteArray.empty l (i : Int) :: l.drop (i + 1) := by
  rw [List.drop_eq_getElem_cons h]
  congr 1
  simp [rdOf, List.getD_eq_getElem?_getD, List.getElem?_eq_getElem h]
theorem readip_l0 {s : ByteArray} {l : List ByteArray} (hl : l.length ≤ 1000000) (hz : ∀ p ∈ l, p.size ≤ 1000000) (d : Nat) : ∀ (i : Nat) (x : Int), 0 ≤ x → x < 4294967296 → i ≤ l.length → l.length - i = d →
    Ev (fun k => addrs_ReadIp.l0 k s x l (l.length : Int) (i : Int)) (if nb s = ipT (foldIp x (l.drop i)).toNat then (foldIp x (l.drop i), 0) else (0, 20)) := by
  induction d with
  | zero =>
    intro i x h0 h1 hi hd
    rw [List.drop_of_length_le (by omega), show foldIp x [] = x from rfl]
    have hx : ((x.toNat : Nat) : Int) = x := by omega
    have hip := ip_ev (v := x.toNat) (by omega)
    rw [hx] at hip
    refine ev_succ ?_
    simp only [addrs_ReadIp.l0]
    refine ev_neg (by omega) (Ev.bind hip ?_)
    by_cases h : nb s = ipT x.toNat
    · rw [if_pos h]
      refine ev_pos ((list_eq _ _).2 ?_) (ev_now rfl)
      rw [nb_bs (ipT_byt (by omega)), h]
    · rw [if_neg h]
      refine ev_neg (fun h' => h ?_) (ev_now rfl)
      have := (list_eq _ _).1 h'
      rw [nb_bs (ipT_byt (by omega))] at this
      exact this.symm
  | succ d ih =>
    intro i x h0 h1 hi hd
    have hlt : i < l.length := by omega
    have hm : rdOf ByteArray.empty l (i : Int) ∈ l := by
      have : rdOf ByteArray.empty l (i : Int) = l[i] := by simp [rdOf, List.getD_eq_getElem?_getD, List.getElem?_eq_getElem hlt]
      rw [this]
      exact List.getElem_mem hlt
    rw [rd_drop l i hlt, foldIp_cons]
    refine ev_succ ?_
    simp only [addrs_ReadIp.l0]
    rw [w64 (x := (i : Int) + 1) (by omega) (by omega)]
    refine ev_pos (by omega) (ev_pos (by omega) (ev_pos (by omega) ?_))
    have e : strconv_Atoi.f (rdOf ByteArray.empty l (i : Int)) = some (atoiV (rdOf ByteArray.empty l (i : Int)).data.toList, none) := by
      unfold strconv_Atoi.f
      rw [if_pos (hz _ hm)]
    rw [e]
    exact ev_some (ih (i + 1) _ (or_range _ _).1 (or_range _ _).2 (by omega) (by omega))
theorem split_size (sep : ByteArray) : ∀ (k : Nat) (s : ByteArray), ∀ p ∈ Lib.splitB sep 0 k s, p.size ≤ s.size
  | 0, s, p, hp => by
    rw [Lib.splitB_zero] at hp
    obtain rfl := List.mem_singleton.1 hp
    exact Nat.le_refl _
  | k + 1, s, p, hp => by
    unfold Lib.splitB at hp
    split at hp
    · obtain rfl := List.mem_singleton.1 hp
      exact Nat.le_refl _
    · rcases List.mem_cons.1 hp with rfl | hp
      · rw [ByteArray.size_extract]
        omega
      · have := split_size sep k _ p hp
        rw [ByteArray.size_extract] at this
        omega
/-- What ReadIp answers. -/
def gip (s : ByteArray) : Int × Int := if nb s = ipT (foldIp 0 (splitL s (⟨#[46]⟩ : ByteArray))).toNat then (foldIp 0 (splitL s (⟨#[46]⟩ : ByteArray)), 0) else (0, 20)
theorem readip_ev {s : ByteArray} (hs : s.size ≤ 1000) : Ev (fun k => addrs_ReadIp.f k s) (gip s) := by
  unfold addrs_ReadIp.f
  have e : strings_Split.f s (⟨#[46]⟩ : ByteArray) = some (splitL s (⟨#[46]⟩ : ByteArray)) := by
    unfold strings_Split.f
    rw [if_pos ⟨by omega, by decide⟩]
  rw [e]
  have hlen : (splitL s (⟨#[46]⟩ : ByteArray)).length ≤ 1001 := by
    have h1 : (splitL s (⟨#[46]⟩ : ByteArray)).length = _ := Lib.splitB_all (⟨#[46]⟩ : ByteArray) (by decide) 0 _ s rfl
    have h2 := Lib.countB_le (⟨#[46]⟩ : ByteArray) (by decide) s.size s (Nat.le_refl _)
    omega
  have := readip_l0 (s := s) (l := splitL s (⟨#[46]⟩ : ByteArray)) (by omega) (fun p hp => by have := split_size _ _ _ p hp; omega) _ 0 0 (by decide) (by decide) (Nat.zero_le _) rfl
  rw [List.drop_zero] at this
  exact ev_some this
/-- An address's text's pieces. -/
theorem split_ip {s : ByteArray} {a b c d : Nat} (ha : a < 256) (hb : b < 256) (hc : c < 256) (hd : d < 256) (h : nb s = ip4 a b c d) : (splitL s (⟨#[46]⟩ : ByteArray)).map (·.data.toList) = [dec3 a, dec3 b, dec3 c, dec3 d] := by
  unfold splitL
  rw [Lib.splitB_data]
  have hs : s.data.toList = dec3 a ++ 46 :: (dec3 b ++ 46 :: (dec3 c ++ 46 :: dec3 d)) := by
    have e : s = bs (ip4 a b c d) := by rw [← h, bs_nb]
    rw [e, (dec3_decN ⟨a, ha⟩).1, (dec3_decN ⟨b, hb⟩).1, (dec3_decN ⟨c, hc⟩).1, (dec3_decN ⟨d, hd⟩).1]
    show (ip4 a b c d).map UInt8.ofNat = _
    unfold ip4
    simp [List.map_append]
  have := split_four 46 (dec3 a) (dec3 b) (dec3 c) (dec3 d) (dot_dec3 a ha) (dot_dec3 b hb) (dot_dec3 c hc) (dot_dec3 d hd)
  rw [← hs] at this
  exact this
theorem or_join {x b : Nat} (hx : x < 16777216) (hb : b < 256) : Go.bits .or .u32 (((x : Int) * 256) % 4294967296) ((b : Int) % 256) = ((x * 256 + b : Nat) : Int) := by
  have e : (2 : Int) ^ 32 = 4294967296 := by decide
  have e8 : (2 : Int) ^ 8 = 256 := by decide
  rw [show ((x : Int) * 256) % 4294967296 = (x : Int) * 256 by omega, show (b : Int) % 256 = (b : Int) by omega]
  rw [Go.bits_join .u32 32 (by decide) wraps_u32 8 ((x : Int) * 256) (b : Int) (by omega) (by rw [e8]; omega) (by rw [e]; omega) (by omega) (by rw [e8]; omega) (by rw [e]; omega)]
  omega
theorem atoiV_dec {p : ByteArray} {b : Nat} (hb : b < 256) (h : p.data.toList = dec3 b) : atoiV p.data.toList = (b : Int) := by
  rw [h]
  unfold atoiV
  rw [atoi_dec3 b hb]
theorem foldIp_ip {s : ByteArray} {v : Nat} (hv : v < 4294967296) (h : nb s = ipT v) : foldIp 0 (splitL s (⟨#[46]⟩ : ByteArray)) = (v : Int) := by
  have hm := split_ip (s := s) (a := v / 16777216) (b := v / 65536 % 256) (c := v / 256 % 256) (d := v % 256) (by omega) (by omega) (by omega) (by omega) h
  generalize splitL s (⟨#[46]⟩ : ByteArray) = l at hm ⊢
  have hlen : l.length = 4 := by
    have := congrArg List.length hm
    simpa using this
  match l, hlen, hm with
  | [p, q, r, t], _, hm =>
    simp only [List.map_cons, List.map_nil, List.cons.injEq, and_true] at hm
    obtain ⟨h1, h2, h3, h4⟩ := hm
    simp only [foldIp]
    rw [atoiV_dec (by omega) h1, atoiV_dec (by omega) h2, atoiV_dec (by omega) h3, atoiV_dec (by omega) h4]
    have e1 := or_join (x := 0) (b := v / 16777216) (by decide) (by omega)
    rw [show ((0 : Nat) : Int) = 0 from rfl] at e1
    rw [e1, or_join (by omega) (by omega), or_join (by omega) (by omega), or_join (by omega) (by omega)]
    omega
theorem readip_ok {s : ByteArray} {v : Nat} (hv : v < 4294967296) (h : nb s = ipT v) : gip s = ((v : Int), 0) := by
  unfold gip
  rw [foldIp_ip hv h, Int.toNat_natCast, if_pos h]
theorem readip_no {s : ByteArray} (h : ∀ v, v < 4294967296 → nb s ≠ ipT v) : gip s = (0, 20) := by
  have := foldIp_range (splitL s (⟨#[46]⟩ : ByteArray)) 0 (by decide) (by decide)
  unfold gip
  rw [if_neg (h _ (by omega))]
theorem ipT_size {s : ByteArray} {v : Nat} (h : nb s = ipT v) : s.size ≤ 15 := by
  rw [← nb_len, h]
  exact ip4_len _ _ _ _
end Go.Proofs.YtgdjekigkimhnaaGreatDoor.P
namespace Go.Proofs.YtgdjekigkimhnaaGreatDoor.P
open Go Go.RowKit Go.Proofs.YtgdjekigkimhnaaGreatDoorW.PrintWords Go.Proofs.YtgdjekigkimhnaaGreatDoorW.PrintLast Go.Proofs.YtgdjekigkimhnaaGreatDoorW.PrintMore Go.Proofs.YtgdjekigkimhnaaGreatDoor.L

theorem rdig (n : Nat) (h : n < 1000) : strOfNums [(wrap64 (48 + (Int.tmod (n : Int) 10))) % 256] = bs [48 + n % 10] := by
  have e : (wrap64 (48 + (Int.tmod (n : Int) 10))) % 256 = ((48 + n % 10 : Nat) : Int) := by
    rw [Int.tmod_eq_emod_of_nonneg (by omega), w64 (by omega) (by omega)]
    omega
  rw [e]
  exact nums_nat (Byt.cons (by omega) Byt.nil)
theorem rnum_small {n : Nat} (h : n < 10) : Ev (fun k => gangwayref02_Num.f k (n : Int)) (bs [48 + n % 10]) := by
  refine ev_succ ?_
  simp only [gangwayref02_Num.f]
  refine ev_some (ev_neg (by omega) (ev_now ?_))
  exact rdig n (by omega)
theorem rnum_big {n : Nat} {l : List Nat} (h : 10 ≤ n) (h1 : n < 1000) (hl : l.length ≤ 10) (hr : Ev (fun k => gangwayref02_Num.f k ((n / 10 : Nat) : Int)) (bs l)) : Ev (fun k => gangwayref02_Num.f k (n : Int)) (bs (l ++ [48 + n % 10])) := by
  refine ev_succ ?_
  simp only [gangwayref02_Num.f]
  have e : wrap64 (Int.tdiv (n : Int) 10) = ((n / 10 : Nat) : Int) := by
    rw [Int.tdiv_eq_ediv_of_nonneg (by omega), w64 (by omega) (by omega)]
    omega
  refine ev_some (ev_pos (by omega) ?_)
  rw [e, rdig n h1]
  refine Ev.bind hr (ev_pos (by rw [bs_size, bs_size]; simp; omega) (ev_now ?_))
  rw [bs_append]
theorem rnum10_ev {n : Nat} (h : n < 256) : Ev (fun k => gangwayref02_Num.f k (n : Int)) (bs (decN n)) := by
  unfold decN
  by_cases h1 : n < 10
  · rw [if_pos h1]
    have := rnum_small h1
    rw [Nat.mod_eq_of_lt h1] at this
    exact this
  · rw [if_neg h1]
    by_cases h2 : n < 100
    · rw [if_pos h2]
      have g := rnum_small (n := n / 10) (by omega)
      rw [Nat.mod_eq_of_lt (show n / 10 < 10 by omega)] at g
      exact rnum_big (by omega) (by omega) (by simp) g
    · rw [if_neg h2]
      have g := rnum_small (n := n / 10 / 10) (by omega)
      rw [Nat.mod_eq_of_lt (show n / 10 / 10 < 10 by omega)] at g
      have g2 := rnum_big (n := n / 10) (by omega) (by omega) (by simp) g
      have g3 := rnum_big (n := n) (by omega) (by omega) (by simp) g2
      rw [show n / 10 / 10 = n / 100 by omega] at g3
      exact g3
theorem bs_dot : (⟨#[46]⟩ : ByteArray) = bs [46] := rfl
theorem rip_ev {v : Nat} (hv : v < 4294967296) : Ev (fun k => gangwayref02_Ip.f k (v : Int)) (bs (ipT v)) := by
  unfold gangwayref02_Ip.f
  have b1 : v / 16777216 < 256 := by omega
  have b4 : v % 256 < 256 := by omega
  have h1 := rnum10_ev b1
  have h2 := rnum10_ev (n := v / 65536 % 256) (Nat.mod_lt _ (by decide))
  have h3 := rnum10_ev (n := v / 256 % 256) (Nat.mod_lt _ (by decide))
  have h4 := rnum10_ev b4
  have e1 : (Int.tdiv (v : Int) 16777216) % 4294967296 = ((v / 16777216 : Nat) : Int) := by
    rw [Int.tdiv_eq_ediv_of_nonneg (Int.natCast_nonneg _)]
    omega
  have e2 : (Int.tdiv (v : Int) 65536) % 256 = ((v / 65536 % 256 : Nat) : Int) := by
    rw [Int.tdiv_eq_ediv_of_nonneg (Int.natCast_nonneg _)]
    omega
  have e3 : (Int.tdiv (v : Int) 256) % 256 = ((v / 256 % 256 : Nat) : Int) := by
    rw [Int.tdiv_eq_ediv_of_nonneg (by omega)]
    omega
  have e4 : wrap64 (Int.tmod (v : Int) 256) = ((v % 256 : Nat) : Int) := by
    rw [Int.tmod_eq_emod_of_nonneg (by omega), w64 (by omega) (by omega)]
    omega
  rw [e1, e2, e3, e4]
  clear e1 e2 e3 e4 b1 b4
  have l1 := decN_len (v / 16777216)
  have l2 := decN_len (v / 65536 % 256)
  have l3 := decN_len (v / 256 % 256)
  have l4 := decN_len (v % 256)
  rw [bs_dot]
  refine Ev.bind h1 (ev_pos (by rw [bs_size]; omega) (Ev.bind h2 ?_))
  rw [← bs_append, ← bs_append]
  refine ev_pos (by simp only [bs_size, List.length_append, List.length_singleton]; omega) (ev_pos (by simp only [bs_size, List.length_append, List.length_singleton]; omega) (Ev.bind h3 ?_))
  rw [← bs_append, ← bs_append]
  refine ev_pos (by simp only [bs_size, List.length_append, List.length_singleton]; omega) (ev_pos (by simp only [bs_size, List.length_append, List.length_singleton]; omega) (Ev.bind h4 ?_))
  rw [← bs_append, ← bs_append]
  refine ev_pos (by simp only [bs_size, List.length_append, List.length_singleton]; omega) (ev_now ?_)
  congr 1
  unfold ipT ip4
  simp
/-! ReadIp -/
/-- What the document's reader has read at the end: the number, the parts. -/
def rscan : List Nat → Nat → Nat → Nat → Nat × Nat
  | [], x, n, p => ((x * 256 + n % 256) % 4294967296, p + 1)
  | c :: r, x, n, p => if 48 ≤ c ∧ c ≤ 57 then rscan r x (min (n * 10 + c - 48) 1000) p else if c = 46 then rscan r ((x * 256 + n % 256) % 4294967296) 0 (p + 1) else rscan r x n p
theorem rscan_nil (x n p : Nat) : rscan [] x n p = ((x * 256 + n % 256) % 4294967296, p + 1) := rfl
theorem rscan_dig {c : Nat} (r : List Nat) (x n p : Nat) (h : 48 ≤ c ∧ c ≤ 57) : rscan (c :: r) x n p = rscan r x (min (n * 10 + c - 48) 1000) p := by
  rw [rscan, if_pos h]
theorem rscan_dot (r : List Nat) (x n p : Nat) : rscan (46 :: r) x n p = rscan r ((x * 256 + n % 256) % 4294967296) 0 (p + 1) := by
  rw [rscan, if_neg (by decide), if_pos rfl]
theorem rscan_else {c : Nat} (r : List Nat) (x n p : Nat) (h : ¬ (48 ≤ c ∧ c ≤ 57)) (h2 : c ≠ 46) : rscan (c :: r) x n p = rscan r x n p := by
  rw [rscan, if_neg h, if_neg h2]
theorem rscan_lt : ∀ (l : List Nat) (x n p : Nat), (rscan l x n p).1 < 4294967296
  | [], _, _, _ => Nat.mod_lt _ (by decide)
  | c :: r, x, n, p => by
    rw [rscan]
    split
    · exact rscan_lt r _ _ _
    · split
      · exact rscan_lt r _ _ _
      · exact rscan_lt r _ _ _
theorem rscan_dec {b : Nat} (hb : b < 256) (r : List Nat) (x p : Nat) : rscan (decN b ++ r) x 0 p = rscan r x b p := by
  unfold decN
  by_cases h1 : b < 10
  · rw [if_pos h1, List.singleton_append, rscan_dig _ _ _ _ (by omega), show min (0 * 10 + (48 + b) - 48) 1000 = b by omega]
  · rw [if_neg h1]
    by_cases h2 : b < 100
    · rw [if_pos h2]
      simp only [List.cons_append, List.nil_append]
      rw [rscan_dig _ _ _ _ (by omega), rscan_dig _ _ _ _ (by omega)]
      congr 1
      omega
    · rw [if_neg h2]
      simp only [List.cons_append, List.nil_append]
      rw [rscan_dig _ _ _ _ (by omega), rscan_dig _ _ _ _ (by omega), rscan_dig _ _ _ _ (by omega)]
      congr 1
      omega
theorem rscan_ip {v : Nat} (hv : v < 4294967296) : rscan (ipT v) 0 0 0 = (v, 4) := by
  unfold ipT ip4
  have := rscan_dec (b := v % 256) (by omega) []
  simp only [List.append_nil] at this
  rw [rscan_dec (by omega), rscan_dot, rscan_dec (by omega), rscan_dot, rscan_dec (by omega), rscan_dot, this, rscan_nil]
  congr 1
  omega
/-- The reader's end. -/
def rend (s : ByteArray) (z : Nat × Nat) : Int × Int := if z.2 = 4 ∧ nb s = ipT z.1 then ((z.1 : Int), 0) else (0, 20)
theorem rip_fin (s : ByteArray) (i n : Int) {x p : Nat} (hx : x < 4294967296) : Ev (fun k => gangwayref02_ReadIp.j1 k s (x : Int) n (p : Int) i false) (rend s (x, p)) := by
  refine ev_succ ?_
  simp only [gangwayref02_ReadIp.j1]
  refine ev_neg (by decide) ?_
  show Ev _ (if p = 4 ∧ nb s = ipT x then ((x : Int), 0) else (0, 20))
  by_cases h4 : p = 4
  · refine ev_pos (by omega) (Ev.bind (rip_ev hx) ?_)
    by_cases h : nb s = ipT x
    · rw [show (if p = 4 ∧ nb s = ipT x then ((x : Int), (0 : Int)) else (0, 20)) = ((x : Int), 0) from if_pos ⟨h4, h⟩]
      refine ev_pos ((list_eq _ _).2 ?_) (ev_now rfl)
      rw [nb_bs (ipT_byt hx), h]
    · rw [show (if p = 4 ∧ nb s = ipT x then ((x : Int), (0 : Int)) else (0, 20)) = (0, 20) from if_neg (fun e => h e.2)]
      refine ev_neg (fun h' => h ?_) (ev_now rfl)
      have := (list_eq _ _).1 h'
      rw [nb_bs (ipT_byt hx)] at this
      exact this.symm
  · rw [show (if p = 4 ∧ nb s = ipT x then ((x : Int), (0 : Int)) else (0, 20)) = (0, 20) from if_neg (fun e => h4 e.1)]
    exact ev_neg (by omega) (ev_now rfl)
theorem rreadip_l0 {s : ByteArray} (hs : s.size ≤ 15) (d : Nat) : ∀ (i x n p : Nat), x < 4294967296 → n ≤ 1000 → p ≤ i → i ≤ s.size → s.size - i = d →
    Ev (fun k => gangwayref02_ReadIp.l0 k s (x : Int) (n : Int) (p : Int) (i : Int)) (rend s (rscan ((nb s).drop i) x n p)) := by
  have hl := nb_len s
  have hby := nb_byt s
  have hadd : ∀ x n : Nat, x < 4294967296 → n ≤ 1000 → ((((x : Int) * 256) % 4294967296) + ((Int.tmod (n : Int) 256) % 4294967296)) % 4294967296 = (((x * 256 + n % 256) % 4294967296 : Nat) : Int) := by
    intro x n _ _
    rw [Int.tmod_eq_emod_of_nonneg (by omega)]
    omega
  induction d with
  | zero =>
    intro i x n p hx hn hp hi hd
    have e : i = s.size := by omega
    rw [List.drop_of_length_le (by omega), rscan_nil]
    refine ev_succ ?_
    simp only [gangwayref02_ReadIp.l0]
    refine ev_pos (by omega) ?_
    rw [decide_eq_true (by omega)]
    refine ev_succ ?_
    simp only [gangwayref02_ReadIp.j1]
    refine ev_pos trivial (ev_neg (by omega) (ev_succ ?_))
    simp only [gangwayref02_ReadIp.j2]
    rw [hadd x n hx hn, w64 (x := (p : Int) + 1) (by omega) (by omega), w64 (x := (i : Int) + 1) (by omega) (by omega)]
    refine ev_neg (by decide) (ev_pos (by omega) (ev_succ ?_))
    simp only [gangwayref02_ReadIp.l0]
    refine ev_neg (by omega) ?_
    exact rip_fin s _ _ (x := (x * 256 + n % 256) % 4294967296) (p := p + 1) (Nat.mod_lt _ (by decide))
  | succ d ih =>
    intro i x n p hx hn hp hi hd
    have hlt : i < (nb s).length := by omega
    have hc := getD_byte hby i
    have hdr : (nb s).drop i = (nb s).getD i 0 :: (nb s).drop (i + 1) := by
      rw [List.drop_eq_getElem_cons hlt]
      simp [List.getD_eq_getElem?_getD, List.getElem?_eq_getElem hlt]
    have eb : bt s (i : Int) = (((nb s).getD i 0 : Nat) : Int) := by rw [bt_nb, Int.toNat_natCast]
    rw [hdr]
    generalize (nb s).getD i 0 = c at *
    refine ev_succ ?_
    simp only [gangwayref02_ReadIp.l0]
    refine ev_pos (by omega) ?_
    rw [decide_eq_true (by omega)]
    refine ev_succ ?_
    simp only [gangwayref02_ReadIp.j1]
    refine ev_pos trivial (ev_pos (by omega) (ev_pos (by omega) ?_))
    rw [eb]
    have hj2f : ¬ (48 ≤ c ∧ c ≤ 57) → Ev (fun k => gangwayref02_ReadIp.j2 k s (x : Int) (n : Int) (p : Int) (i : Int) false) (rend s (rscan (c :: (nb s).drop (i + 1)) x n p)) := by
      intro hnd
      refine ev_succ ?_
      simp only [gangwayref02_ReadIp.j2]
      rw [hadd x n hx hn, w64 (x := (p : Int) + 1) (by omega) (by omega), w64 (x := (i : Int) + 1) (by omega) (by omega), eb]
      refine ev_neg (by decide) (ev_neg (by omega) (ev_pos (by omega) (ev_pos (by omega) ?_)))
      by_cases h46 : c = 46
      · subst h46
        rw [rscan_dot]
        exact ev_pos rfl (ih (i + 1) ((x * 256 + n % 256) % 4294967296) 0 (p + 1) (Nat.mod_lt _ (by decide)) (by decide) (by omega) (by omega) (by omega))
      · rw [rscan_else _ _ _ _ hnd h46]
        exact ev_neg (by omega) (ih (i + 1) x n p hx hn (by omega) (by omega) (by omega))
    by_cases h48 : 48 ≤ c
    · refine ev_pos (by omega) ?_
      by_cases h57 : c ≤ 57
      · rw [decide_eq_true (by omega), rscan_dig _ _ _ _ ⟨h48, h57⟩]
        refine ev_succ ?_
        simp only [gangwayref02_ReadIp.j2]
        rw [eb, w64 (x := (n : Int) * 10) (by omega) (by omega), w64 (x := (c : Int)) (by omega) (by omega), w64 (x := (n : Int) * 10 + (c : Int)) (by omega) (by omega), w64 (x := (n : Int) * 10 + (c : Int) - 48) (by omega) (by omega), w64 (x := (i : Int) + 1) (by omega) (by omega)]
        have em : mn ((n : Int) * 10 + (c : Int) - 48) 1000 = ((min (n * 10 + c - 48) 1000 : Nat) : Int) := by
          unfold mn
          omega
        rw [em]
        exact ev_pos trivial (ev_pos (by omega) (ev_pos (by omega) (ih (i + 1) x _ p hx (Nat.min_le_right _ _) (by omega) (by omega) (by omega))))
      · rw [decide_eq_false (by omega)]
        exact hj2f (fun h => h57 h.2)
    · exact ev_neg (by omega) (hj2f (fun h => h48 h.1))
/-- What the document's ReadIp answers. -/
def grip (s : ByteArray) : Int × Int := if s.size ≤ 15 then rend s (rscan (nb s) 0 0 0) else (0, 20)
theorem rreadip_ev {s : ByteArray} (hs : s.size ≤ 1000) : Ev (fun k => gangwayref02_ReadIp.f k s) (grip s) := by
  unfold gangwayref02_ReadIp.f grip
  by_cases h : s.size ≤ 15
  · rw [if_pos h]
    have := rreadip_l0 h s.size 0 0 0 0 (by decide) (by decide) (Nat.le_refl _) (Nat.zero_le _) rfl
    rw [List.drop_zero] at this
    exact this
  · rw [if_neg h]
    refine ev_succ ?_
    simp only [gangwayref02_ReadIp.l0]
    refine ev_pos (by omega) ?_
    rw [decide_eq_false (by omega)]
    have := rip_fin s 0 0 (x := 0) (p := 0) (by decide)
    exact this
theorem grip_ok {s : ByteArray} {v : Nat} (hv : v < 4294967296) (h : nb s = ipT v) : grip s = ((v : Int), 0) := by
  unfold grip
  rw [if_pos (ipT_size h), h, rscan_ip hv]
  unfold rend
  rw [if_pos ⟨rfl, h⟩]
theorem grip_no {s : ByteArray} (h : ∀ v, v < 4294967296 → nb s ≠ ipT v) : grip s = (0, 20) := by
  unfold grip
  split
  · unfold rend
    rw [if_neg (fun e => h _ (rscan_lt _ _ _ _) e.2)]
  · rfl
end Go.Proofs.YtgdjekigkimhnaaGreatDoor.P
namespace Go.Proofs.YtgdjekigkimhnaaGreatDoor.P
open Go Go.RowKit Go.Proofs.YtgdjekigkimhnaaGreatDoorW.PrintWords Go.Proofs.YtgdjekigkimhnaaGreatDoorW.PrintLast Go.Proofs.YtgdjekigkimhnaaGreatDoorW.PrintMore Go.Proofs.YtgdjekigkimhnaaGreatDoor.L

theorem pow_le {n : Nat} (h : n ≤ 32) : 2 ^ n ≤ 4294967296 := Nat.pow_le_pow_right (n := 2) (by decide) h
theorem pow_pos' (n : Nat) : 0 < 2 ^ n := Nat.two_pow_pos n
theorem and32 {a b : Nat} (ha : a < 4294967296) (hb : b < 4294967296) : Go.bits .and .u32 (a : Int) (b : Int) = ((a &&& b : Nat) : Int) :=
  (bits_nat .u32 32 (by decide) wraps_u32 a b ha hb).1
theorem andNot32 {a n : Nat} (ha : a < 4294967296) (hn : n ≤ 32) : Go.bits .andNot .u32 (a : Int) ((2 ^ n - 1 : Nat) : Int) = ((a - a % 2 ^ n : Nat) : Int) := by
  have hp := pow_le hn
  have hq := pow_pos' n
  have e0 : Go.bits .andNot .u32 (a : Int) ((2 ^ n - 1 : Nat) : Int) = IntKind.u32.wrap ((BitVec.ofInt 32 (a : Int) &&& ~~~ BitVec.ofInt 32 ((2 ^ n - 1 : Nat) : Int)).toNat : Int) := rfl
  have e1 : (BitVec.ofInt 32 (a : Int) &&& ~~~ BitVec.ofInt 32 ((2 ^ n - 1 : Nat) : Int)).toNat = a - a % 2 ^ n := by
    have er : a - a % 2 ^ n = a / 2 ^ n * 2 ^ n := by
      have := Nat.div_add_mod a (2 ^ n)
      rw [Nat.mul_comm] at this
      omega
    rw [er]
    apply Nat.eq_of_testBit_eq
    intro i
    rw [BitVec.ofInt_natCast, BitVec.ofInt_natCast, BitVec.toNat_and, Nat.testBit_and, Nat.testBit_mul_two_pow]
    rw [BitVec.toNat_ofNat, Nat.mod_eq_of_lt (show a < 2 ^ 32 from ha)]
    rw [← BitVec.getLsbD, BitVec.getLsbD_not, BitVec.getLsbD, BitVec.toNat_ofNat, Nat.mod_eq_of_lt (show 2 ^ n - 1 < 2 ^ 32 by have : (2 : Nat) ^ 32 = 4294967296 := rfl; omega), Nat.testBit_two_pow_sub_one]
    by_cases hi : i < 32
    · by_cases hin : i < n
      · simp [hi, hin, show ¬ n ≤ i by omega]
      · simp [hi, hin, show n ≤ i by omega, Nat.testBit_div_two_pow]
    · have hz : a.testBit i = false := Nat.testBit_lt_two_pow (Nat.lt_of_lt_of_le ha (Nat.pow_le_pow_right (n := 2) (by decide) (show 32 ≤ i by omega)))
      by_cases hin : n ≤ i
      · simp [hi, hz, hin, Nat.testBit_div_two_pow]
      · omega
  rw [e0, e1, wraps_u32 _ (by omega) (by have : (2 : Int) ^ 32 = 4294967296 := by decide
                                         omega)]
theorem orRest {a n : Nat} (ha : a < 4294967296) (hn : n ≤ 32) (hm : a % 2 ^ n = 0) : Go.bits .or .u32 (a : Int) ((2 ^ n - 1 : Nat) : Int) = ((a + (2 ^ n - 1) : Nat) : Int) := by
  have hp := pow_le hn
  have hq := pow_pos' n
  have e : (2 : Int) ^ 32 = 4294967296 := by decide
  have hx : (a : Int) % (2 : Int) ^ n = 0 := by
    have : ((a % 2 ^ n : Nat) : Int) = 0 := by rw [hm]; rfl
    rw [Int.natCast_emod] at this
    exact_mod_cast this
  have hy : ((2 ^ n - 1 : Nat) : Int) < (2 : Int) ^ n := by
    have : 2 ^ n - 1 < 2 ^ n := by omega
    exact_mod_cast this
  rw [Go.bits_join .u32 32 (by decide) wraps_u32 n (a : Int) ((2 ^ n - 1 : Nat) : Int) (by omega) hx (by rw [e]; omega) (by omega) hy (by rw [e]; omega)]
  omega
/-- How many bits of a net do not count. -/
def nbits (b : Int) : Nat := (32 - b).toNat
theorem nbits_le {b : Int} (h : 0 ≤ b) : nbits b ≤ 32 := by unfold nbits; omega
theorem rest_l0 {n : Nat} (hn : n ≤ 32) (d : Nat) : ∀ i : Nat, i ≤ n → n - i = d → Ev (fun k => addrs_rest.l0 k ((2 ^ i - 1 : Nat) : Int) (n : Int) (i : Int)) ((2 ^ n - 1 : Nat) : Int) := by
  induction d with
  | zero =>
    intro i hi hd
    have e : i = n := by omega
    subst e
    refine ev_succ ?_
    simp only [addrs_rest.l0]
    exact ev_neg (by omega) (ev_now rfl)
  | succ d ih =>
    intro i hi hd
    refine ev_succ ?_
    simp only [addrs_rest.l0]
    rw [w64 (x := (i : Int) + 1) (by omega) (by omega)]
    refine ev_pos (by omega) ?_
    have hp : 2 ^ i ≤ 2 ^ 31 := Nat.pow_le_pow_right (n := 2) (by decide) (show i ≤ 31 by omega)
    have hq := pow_pos' i
    have e31 : (2 : Nat) ^ 31 = 2147483648 := rfl
    have e32 : (2 : Int) ^ 32 = 4294967296 := by decide
    have e1 : (2 : Int) ^ 1 = 2 := by decide
    have es : 2 ^ (i + 1) = 2 * 2 ^ i := by rw [Nat.pow_succ]; omega
    have := ih (i + 1) (by omega) (by omega)
    have eo : Go.bits .or .u32 ((((2 ^ i - 1 : Nat) : Int) * 2) % 4294967296) 1 = ((2 ^ (i + 1) - 1 : Nat) : Int) := by
      rw [show (((2 ^ i - 1 : Nat) : Int) * 2) % 4294967296 = ((2 ^ i - 1 : Nat) : Int) * 2 by omega]
      rw [Go.bits_join .u32 32 (by decide) wraps_u32 1 (((2 ^ i - 1 : Nat) : Int) * 2) 1 (by omega) (by rw [e1]; omega) (by rw [e32]; omega) (by decide) (by decide) (by decide)]
      omega
    rw [eo]
    exact this
theorem rest_ev (ip : Int) {b : Int} (h0 : 0 ≤ b) (h1 : b ≤ 32) : Ev (fun k => addrs_rest.f k ip b) ((2 ^ nbits b - 1 : Nat) : Int) := by
  unfold addrs_rest.f
  have e : wrap64 (32 - b) = ((nbits b : Nat) : Int) := by
    rw [w64 (by omega) (by omega)]
    unfold nbits
    omega
  rw [e]
  exact rest_l0 (nbits_le h0) (nbits b) 0 (Nat.zero_le _) rfl
/-- May the net be? -/
def gnet (ip : Nat) (b : Int) : Bool := decide (0 ≤ b ∧ b ≤ 32 ∧ ip % 2 ^ nbits b = 0)
theorem gnet_iff {ip : Nat} {b : Int} : gnet ip b = true ↔ 0 ≤ b ∧ b ≤ 32 ∧ ip % 2 ^ nbits b = 0 := by unfold gnet; exact decide_eq_true_iff
theorem beq_nat (a b : Nat) : ((a : Int) == (b : Int)) = decide (a = b) := by
  rw [Bool.eq_iff_iff, beq_iff_eq, decide_eq_true_iff]
  omega
theorem net_ev {ip : Nat} (h : ip < 4294967296) (b : Int) : Ev (fun k => addrs_Net.f k (ip : Int) b) (gnet ip b) := by
  unfold addrs_Net.f gnet
  by_cases h0 : 0 ≤ b
  · refine ev_pos h0 ?_
    by_cases h1 : b ≤ 32
    · have hn := nbits_le h0
      have hp := pow_le hn
      have hq := pow_pos' (nbits b)
      refine ev_pos h1 (Ev.bind (rest_ev (ip : Int) h0 h1) (ev_now ?_))
      rw [and32 h (by omega), Nat.and_two_pow_sub_one_eq_mod]
      have := beq_nat (ip % 2 ^ nbits b) 0
      rw [show ((0 : Nat) : Int) = 0 from rfl] at this
      rw [this]
      exact decide_eq_decide.2 ⟨fun e => ⟨h0, h1, e⟩, fun e => e.2.2⟩
    · exact ev_neg h1 (ev_now (decide_eq_false (fun e => h1 e.2.1)).symm)
  · exact ev_neg h0 (ev_now (decide_eq_false (fun e => h0 e.1)).symm)
/-- Is an address in it? -/
def gin (ip : Nat) (b : Int) (a : Nat) : Bool := gnet ip b && decide (ip ≤ a ∧ a < ip + 2 ^ nbits b)
theorem block {P ip a : Nat} (hP : 0 < P) (h : ip % P = 0) : a - a % P = ip ↔ ip ≤ a ∧ a < ip + P := by
  have h1 := Nat.mod_lt a hP
  have h2 := Nat.mod_le a P
  constructor
  · intro e
    omega
  · rintro ⟨e1, e2⟩
    obtain ⟨r, rfl⟩ : ∃ r, a = ip + r := ⟨a - ip, by omega⟩
    have : (ip + r) % P = r := by
      rw [Nat.add_mod, h, Nat.zero_add, Nat.mod_mod, Nat.mod_eq_of_lt (by omega)]
    omega
theorem in_ev {ip : Nat} (h : ip < 4294967296) (b : Int) {a : Nat} (ha : a < 4294967296) : Ev (fun k => addrs_In.f k (ip : Int) b (a : Int)) (gin ip b a) := by
  unfold addrs_In.f gin
  refine Ev.bind (net_ev h b) ?_
  by_cases hg : gnet ip b = true
  · obtain ⟨h0, h1, hm⟩ := gnet_iff.1 hg
    rw [hg]
    refine ev_pos rfl (Ev.bind (rest_ev (ip : Int) h0 h1) (ev_now ?_))
    rw [andNot32 ha (nbits_le h0), beq_nat, Bool.true_and]
    exact decide_eq_decide.2 (block (pow_pos' _) hm)
  · have hf : gnet ip b = false := Bool.not_eq_true _ ▸ hg
    rw [hf]
    exact ev_neg (by decide) (ev_now rfl)
/-- Its greatest address. -/
def glast (ip : Nat) (b : Int) : Nat := if gnet ip b = true then ip + (2 ^ nbits b - 1) else 0
theorem top {ip n : Nat} (h : ip < 4294967296) (hn : n ≤ 32) (hm : ip % 2 ^ n = 0) : ip + 2 ^ n ≤ 4294967296 := by
  have e : (4294967296 : Nat) = 2 ^ n * 2 ^ (32 - n) := by rw [← Nat.pow_add, show n + (32 - n) = 32 by omega]
  have e2 : ip = 2 ^ n * (ip / 2 ^ n) := by
    have := Nat.div_add_mod ip (2 ^ n)
    omega
  have hl : ip / 2 ^ n < 2 ^ (32 - n) := by
    rw [Nat.div_lt_iff_lt_mul (pow_pos' n), Nat.mul_comm, ← e]
    exact h
  have : 2 ^ n * (ip / 2 ^ n + 1) ≤ 2 ^ n * 2 ^ (32 - n) := Nat.mul_le_mul_left _ hl
  rw [Nat.mul_add, Nat.mul_one, ← e, ← e2] at this
  exact this
theorem glast_lt {ip : Nat} (h : ip < 4294967296) (b : Int) : glast ip b < 4294967296 := by
  unfold glast
  split
  · rename_i hg
    obtain ⟨h0, h1, hm⟩ := gnet_iff.1 hg
    have := top h (nbits_le h0) hm
    have := pow_pos' (nbits b)
    omega
  · decide
theorem last_ev {ip : Nat} (h : ip < 4294967296) (b : Int) : Ev (fun k => addrs_Last.f k (ip : Int) b) ((glast ip b : Nat) : Int) := by
  unfold addrs_Last.f glast
  refine Ev.bind (net_ev h b) ?_
  by_cases hg : gnet ip b = true
  · obtain ⟨h0, h1, hm⟩ := gnet_iff.1 hg
    rw [hg, if_pos rfl]
    refine ev_pos rfl (Ev.bind (rest_ev (ip : Int) h0 h1) (ev_now ?_))
    exact orRest h (nbits_le h0) hm
  · have hf : gnet ip b = false := Bool.not_eq_true _ ▸ hg
    rw [hf]
    exact ev_neg (by decide) (ev_now rfl)
/-- Is one in another one? -/
def gnear (ip : Nat) (b : Int) (jp : Nat) (c : Int) : Bool := gnet ip b && (gin jp c ip && gin jp c (glast ip b))
theorem near_ev {ip : Nat} (h : ip < 4294967296) (b : Int) {jp : Nat} (hj : jp < 4294967296) (c : Int) : Ev (fun k => addrs_Near.f k (ip : Int) b (jp : Int) c) (gnear ip b jp c) := by
  unfold addrs_Near.f gnear
  refine Ev.bind (net_ev h b) ?_
  by_cases hg : gnet ip b = true
  · rw [hg]
    refine ev_pos rfl (Ev.bind (in_ev hj c h) ?_)
    by_cases hi : gin jp c ip = true
    · rw [hi]
      exact ev_pos rfl (Ev.bind (last_ev h b) (Ev.bind (in_ev hj c (glast_lt h b)) (ev_now rfl)))
    · have hf : gin jp c ip = false := Bool.not_eq_true _ ▸ hi
      rw [hf]
      exact ev_neg (by decide) (ev_now rfl)
  · have hf : gnet ip b = false := Bool.not_eq_true _ ▸ hg
    rw [hf]
    exact ev_neg (by decide) (ev_now rfl)
theorem gnear_iff {ip : Nat} {b : Int} {jp : Nat} {c : Int} : gnear ip b jp c = true ↔ gnet ip b = true ∧ gnet jp c = true ∧ jp ≤ ip ∧ ip + 2 ^ nbits b ≤ jp + 2 ^ nbits c := by
  have hq := pow_pos' (nbits b)
  unfold gnear gin
  simp only [Bool.and_eq_true, decide_eq_true_iff]
  constructor
  · rintro ⟨h1, ⟨h2, h3, h4⟩, _, h5, h6⟩
    unfold glast at h6
    rw [if_pos h1] at h6
    exact ⟨h1, h2, h3, by omega⟩
  · rintro ⟨h1, h2, h3, h4⟩
    unfold glast
    rw [if_pos h1]
    exact ⟨h1, ⟨h2, h3, by omega⟩, h2, by omega, by omega⟩
/-! whose addresses are whose -/
theorem and_bit40 (m : Nat) (hm : m < 18446744073709551616) : Go.bits .and .u64 (m : Int) 1099511627776 = ((m / 1099511627776 % 2 * 1099511627776 : Nat) : Int) := by
  have w : ∀ n : Int, 0 ≤ n → n < 2 ^ 64 → IntKind.u64.wrap n = n := wraps_u64
  have h := (bits_nat .u64 64 (by decide) w m 1099511627776 hm (by decide)).1
  rw [show ((1099511627776 : Nat) : Int) = 1099511627776 from rfl] at h
  rw [h]
  congr 1
  have e40 : (1099511627776 : Nat) = 2 ^ 40 := rfl
  rw [e40]
  apply Nat.eq_of_testBit_eq
  intro j
  rw [Nat.testBit_and, Nat.testBit_two_pow]
  have hp : 0 < 2 ^ 40 := Nat.two_pow_pos 40
  by_cases hi : 40 = j
  · subst hi
    rw [decide_eq_true rfl, Bool.and_true, Nat.testBit_eq_decide_div_mod_eq, Nat.testBit_eq_decide_div_mod_eq, Nat.mul_div_cancel _ hp, Nat.mod_mod]
  · rw [decide_eq_false hi, Bool.and_false]
    have h2 : m / 2 ^ 40 % 2 = 0 ∨ m / 2 ^ 40 % 2 = 1 := by omega
    rcases h2 with h2 | h2
    · rw [h2, Nat.zero_mul, Nat.zero_testBit]
    · rw [h2, Nat.one_mul, Nat.testBit_two_pow, decide_eq_false hi]
def ggroup (m : Nat) : Bool := decide (m / 1099511627776 % 2 = 1)
theorem group_eq {m : Nat} (hm : m < 18446744073709551616) : addrs_Group.f (m : Int) = some (ggroup m) := by
  unfold addrs_Group.f ggroup
  rw [and_bit40 m hm]
  congr 1
  rw [Bool.eq_iff_iff, bne_iff_ne, decide_eq_true_iff]
  omega
def gown (m : Nat) : Bool := decide (0 < m ∧ m < 281474976710656) && !ggroup m
theorem own_eq {m : Nat} (hm : m < 18446744073709551616) : addrs_Own.f (m : Int) = some (gown m) := by
  unfold addrs_Own.f gown
  rw [group_eq hm]
  by_cases h0 : m = 0
  · rw [if_pos (by omega), decide_eq_false (by omega)]
    rfl
  · rw [if_neg (by omega)]
    by_cases h1 : m < 281474976710656
    · rw [if_pos (by omega), decide_eq_true ⟨by omega, h1⟩]
      rfl
    · rw [if_neg (by omega), decide_eq_false (fun e => h1 e.2)]
      rfl
end Go.Proofs.YtgdjekigkimhnaaGreatDoor.P
namespace Go.Proofs.YtgdjekigkimhnaaGreatDoor.P
open Go Go.RowKit Go.Proofs.YtgdjekigkimhnaaGreatDoorW.PrintWords Go.Proofs.YtgdjekigkimhnaaGreatDoorW.PrintLast Go.Proofs.YtgdjekigkimhnaaGreatDoorW.PrintMore Go.Proofs.YtgdjekigkimhnaaGreatDoor.L

theorem fx_mac : MacOf (⟨#[48, 49, 58, 56, 48, 58, 99, 50, 58, 48, 48, 58, 48, 48, 58, 48, 48]⟩ : ByteArray) [1, 128, 194, 0, 0, 0] := ⟨by intro x hx; revert hx x; decide, rfl, by decide⟩
theorem fx_nomac (l : List Nat) : ¬ MacOf (⟨#[48, 49, 58, 56, 48, 58, 67, 50, 58, 48, 48, 58, 48, 48, 58, 48, 48]⟩ : ByteArray) l := by
  intro h
  have := h.unhex
  have e : unhexN ((nb (⟨#[48, 49, 58, 56, 48, 58, 67, 50, 58, 48, 48, 58, 48, 48, 58, 48, 48]⟩ : ByteArray)).filter (· != 58)) = none := by decide
  rw [e] at this
  cases this
theorem fx_ip : nb (⟨#[49, 48, 46, 48, 46, 49, 46, 50]⟩ : ByteArray) = ipT 167772418 := by decide
theorem fx_noip (v : Nat) (hv : v < 4294967296) : nb (⟨#[49, 48, 46, 48, 46, 48, 49, 46, 50]⟩ : ByteArray) ≠ ipT v := by
  intro h
  have h1 := rscan_ip hv
  rw [← h, show rscan (nb (⟨#[49, 48, 46, 48, 46, 48, 49, 46, 50]⟩ : ByteArray)) 0 0 0 = (167772418, 4) by decide] at h1
  have h2 : 167772418 = v := (Prod.mk.inj h1).1
  subst h2
  revert h
  decide
theorem fx_be : be 6 1652522221568 = [1, 128, 194, 0, 0, 0] := by decide
theorem fixed_ev : Ev (fun k => gangwaylaw02_fixed.f k) true := by
  unfold gangwaylaw02_fixed.f
  have n1 : num [1, 128, 194, 0, 0, 0] = 1652522221568 := by decide
  have h1 := readmac_ok fx_mac
  rw [n1] at h1
  have h2 := readip_ev (s := (⟨#[49, 48, 46, 48, 46, 49, 46, 50]⟩ : ByteArray)) (by decide)
  rw [readip_ok (by decide) fx_ip] at h2
  have h3 := readmac_no (s := (⟨#[48, 49, 58, 56, 48, 58, 67, 50, 58, 48, 48, 58, 48, 48, 58, 48, 48]⟩ : ByteArray)) (by decide) fx_nomac
  have h4 := readip_ev (s := (⟨#[49, 48, 46, 48, 46, 48, 49, 46, 50]⟩ : ByteArray)) (by decide)
  rw [readip_no fx_noip] at h4
  refine Ev.bind h1 (Ev.bind h2 (Ev.bind h3 (Ev.bind h4 ?_)))
  refine ev_pos rfl (ev_pos rfl (ev_pos rfl (ev_pos rfl (ev_pos rfl (ev_pos rfl ?_)))))
  have h5 := mac_ev 1652522221568
  rw [fx_be] at h5
  refine Ev.bind h5 (ev_pos ((list_nb _ _).2 (by decide)) ?_)
  have h6 := ip_ev (v := 167772418) (by decide)
  refine Ev.bind h6 (ev_pos ((list_nb _ _).2 (by decide)) ?_)
  have g1 := group_eq (m := 1652522221568) (by decide)
  have o1 := own_eq (m := 1652522221568) (by decide)
  have o2 := own_eq (m := 2) (by decide)
  refine Ev.bind (ev_known g1) (ev_pos (by decide) (Ev.bind (ev_known o1) (ev_neg (by decide) (Ev.bind (ev_known o2) (ev_pos (by decide) ?_)))))
  have i1 := in_ev (ip := 167772160) (by decide) 8 (a := 167772418) (by decide)
  have l1 := last_ev (ip := 167772160) (by decide) 8
  have t1 := net_ev (ip := 1) (by decide) 8
  have q1 := near_ev (ip := 167772160) (by decide) 8 (jp := 0) (by decide) 0
  refine Ev.bind i1 (ev_pos (by decide) (Ev.bind l1 (ev_pos (by decide) (Ev.bind t1 (ev_neg (by decide) (Ev.bind q1 (ev_now ?_)))))))
  decide
end Go.Proofs.YtgdjekigkimhnaaGreatDoor.P
