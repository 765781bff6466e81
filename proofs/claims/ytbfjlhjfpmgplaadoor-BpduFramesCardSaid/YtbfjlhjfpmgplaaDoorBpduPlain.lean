/- The plain laws of the seat and what its printed functions compute, in one text. -/
import Derived.Test.YtbfjlhjfpmgplaaDoorWMore
import Derived.Laws.BitsLemmas
import Derived.Test.YtbfjlhjfpmgplaaDoorPx6
import Derived.Test.YtbfjlhjfpmgplaaDoorPx17
import Derived.Test.YtbfjlhjfpmgplaaDoorPx9
import Derived.Test.YtbfjlhjfpmgplaaDoorPx10
import Derived.Test.YtbfjlhjfpmgplaaDoorPx19
import Derived.Test.YtbfjlhjfpmgplaaDoorPx3
import Derived.Test.YtbfjlhjfpmgplaaDoorPx4
import Derived.Test.YtbfjlhjfpmgplaaDoorPx5
import Derived.Test.YtbfjlhjfpmgplaaDoorPx7
import Derived.Test.YtbfjlhjfpmgplaaDoorPx8
import Derived.Test.YtbfjlhjfpmgplaaDoorPx11
import Derived.Test.YtbfjlhjfpmgplaaDoorPx12
import Derived.Test.YtbfjlhjfpmgplaaDoorPx13
import Derived.Test.YtbfjlhjfpmgplaaDoorPx14
import Derived.KernelRfl
import Derived.Test.YtbfjlhjfpmgplaaDoorPx15
import Derived.Test.YtbfjlhjfpmgplaaDoorPx16
import Derived.Test.YtbfjlhjfpmgplaaDoorPx18
import Derived.Test.YtbfjlhjfpmgplaaDoorPx20
import Derived.Test.YtbfjlhjfpmgplaaDoorPx21
import Derived.Test.YtbfjlhjfpmgplaaDoorPx22
namespace Go.Proofs.YtbfjlhjfpmgplaaDoor.L
open Go Go.RowKit Go.Proofs.YtbfjlhjfpmgplaaDoorW.PrintWords Go.Proofs.YtbfjlhjfpmgplaaDoorW.PrintLast Go.Proofs.YtbfjlhjfpmgplaaDoorW.PrintMore

/-- A text's bytes as natural numbers. -/
def nb (s : ByteArray) : List Nat := s.data.toList.map UInt8.toNat
/-- The text of such numbers. -/
def bs (l : List Nat) : ByteArray := ⟨(l.map UInt8.ofNat).toArray⟩
/-- All are bytes. -/
def Byt (l : List Nat) : Prop := ∀ x ∈ l, x < 256

theorem nb_len (s : ByteArray) : (nb s).length = s.size := by
  unfold nb
  rw [List.length_map, Array.length_toList]
  rfl
theorem bs_size (l : List Nat) : (bs l).size = l.length := by
  unfold bs
  simp [ByteArray.size]
theorem nb_byt (s : ByteArray) : Byt (nb s) := by
  intro x hx
  obtain ⟨b, _, rfl⟩ := List.mem_map.1 hx
  exact b.toNat_lt
theorem nb_bs {l : List Nat} (h : Byt l) : nb (bs l) = l := by
  unfold nb bs
  simp only [List.map_map]
  have : ∀ x ∈ l, (UInt8.toNat ∘ UInt8.ofNat) x = x := fun x hx => by
    have := h x hx
    simp [Nat.mod_eq_of_lt this]
  rw [List.map_congr_left this]
  simp
theorem bs_nb (s : ByteArray) : bs (nb s) = s := by
  unfold nb bs
  rw [List.map_map]
  have : (UInt8.ofNat ∘ UInt8.toNat) = id := by
    funext x
    simp
  rw [this]
  simp
theorem nb_inj {s t : ByteArray} (h : nb s = nb t) : s = t := by rw [← bs_nb s, h, bs_nb]
theorem bs_inj {l m : List Nat} (hl : Byt l) (hm : Byt m) (h : bs l = bs m) : l = m := by rw [← nb_bs hl, h, nb_bs hm]
theorem nb_append (s t : ByteArray) : nb (s ++ t) = nb s ++ nb t := by
  unfold nb
  rw [ByteArray.data_append, Array.toList_append, List.map_append]
theorem bs_append (l m : List Nat) : bs (l ++ m) = bs l ++ bs m := by
  unfold bs
  apply ByteArray.ext
  rw [ByteArray.data_append]
  simp
theorem nb_extract (s : ByteArray) (i j : Nat) : nb (s.extract i j) = ((nb s).take j).drop i := by
  unfold nb
  rw [ByteArray.data_extract, Array.toList_extract, List.extract_eq_take_drop]
  rw [← List.map_take, ← List.map_drop]
  congr 1
  rw [List.drop_take]
theorem nb_empty : nb (⟨#[]⟩ : ByteArray) = [] := rfl
theorem Byt.nil : Byt [] := fun _ h => by cases h
theorem Byt.cons {x : Nat} {l : List Nat} (hx : x < 256) (h : Byt l) : Byt (x :: l) := fun y hy => by
  rcases List.mem_cons.1 hy with rfl | hy
  · exact hx
  · exact h y hy
theorem Byt.append {l m : List Nat} (h : Byt l) (k : Byt m) : Byt (l ++ m) := fun x hx => by
  rcases List.mem_append.1 hx with hx | hx
  · exact h x hx
  · exact k x hx
theorem Byt.take {l : List Nat} (h : Byt l) (n : Nat) : Byt (l.take n) := fun x hx => h x (List.mem_of_mem_take hx)
theorem Byt.drop {l : List Nat} (h : Byt l) (n : Nat) : Byt (l.drop n) := fun x hx => h x (List.mem_of_mem_drop hx)
theorem bs_extract (l : List Nat) (i j : Nat) : (bs l).extract i j = bs ((l.take j).drop i) := by
  apply ByteArray.ext
  unfold bs
  rw [ByteArray.data_extract]
  apply Array.toList_inj.1
  rw [Array.toList_extract, List.extract_eq_take_drop]
  simp only
  rw [← List.map_drop, ← List.map_take, List.drop_take]
theorem bt_nb (s : ByteArray) (i : Int) : bt s i = ((nb s).getD i.toNat 0 : Nat) := by
  unfold bt nb
  by_cases h : i.toNat < s.size
  · rw [dif_pos h]
    rw [List.getD_eq_getElem?_getD, List.getElem?_map]
    have h2 : i.toNat < s.data.toList.length := by rw [Array.length_toList]; exact h
    rw [List.getElem?_eq_getElem h2]
    simp
    rfl
  · rw [dif_neg h]
    rw [List.getD_eq_getElem?_getD, List.getElem?_eq_none (by rw [List.length_map, Array.length_toList]; exact Nat.not_lt.1 h)]
    rfl
theorem bt_bs {l : List Nat} (h : Byt l) (i : Int) : bt (bs l) i = (l.getD i.toNat 0 : Nat) := by rw [bt_nb, nb_bs h]
theorem nb_nums (l : List Int) (h : ∀ x ∈ l, 0 ≤ x ∧ x < 256) : nb (strOfNums l) = l.map Int.toNat := by
  unfold nb strOfNums
  simp only [List.map_map]
  apply List.map_congr_left
  intro x hx
  have := h x hx
  simp only [Function.comp]
  rw [UInt8.toNat_ofNat']
  exact Nat.mod_eq_of_lt (by omega)
theorem nums_bs (l : List Int) (h : ∀ x ∈ l, 0 ≤ x ∧ x < 256) : strOfNums l = bs (l.map Int.toNat) := nb_inj (by
  rw [nb_nums l h, nb_bs]
  intro x hx
  obtain ⟨y, hy, rfl⟩ := List.mem_map.1 hx
  have := h y hy
  omega)
theorem size_bs_le {l : List Nat} {n : Nat} (h : l.length ≤ n) : (bs l).size ≤ n := by rw [bs_size]; exact h

theorem w64 {x : Int} (h0 : -9223372036854775808 ≤ x) (h1 : x ≤ 9223372036854775807) : wrap64 x = x := by
  unfold wrap64
  omega
theorem u64w {x : Int} (h0 : 0 ≤ x) (h1 : x ≤ 18446744073709551615) : IntKind.u64.wrap x = x := by
  have : IntKind.u64.wrap x = x % 18446744073709551616 := by simp [IntKind.wrap, IntKind.bits, IntKind.signed]
  rw [this]
  omega
theorem u64w_mod (x : Int) : IntKind.u64.wrap x = x % 18446744073709551616 := by simp [IntKind.wrap, IntKind.bits, IntKind.signed]
theorem u32w_mod (x : Int) : IntKind.u32.wrap x = x % 4294967296 := IntKind.wrap_u32 x

/-- 'x & (2^i - 1)' of whatever int, negative ones too. -/
theorem mask_nat (x : Int) (i : Nat) (hi : i ≤ 62) : Go.bits .and .i64 x (((2 ^ i - 1 : Nat) : Int)) = x % ((2 ^ i : Nat) : Int) := by
  have e0 : Go.bits .and .i64 x (((2 ^ i - 1 : Nat) : Int)) = IntKind.i64.wrap ((BitVec.ofInt 64 x &&& BitVec.ofInt 64 (((2 ^ i - 1 : Nat) : Int))).toNat : Int) := rfl
  rw [e0]
  have hp : 0 < 2 ^ i := Nat.two_pow_pos i
  have hle : 2 ^ i ≤ 2 ^ 62 := Nat.pow_le_pow_right (by decide) hi
  have hb : (BitVec.ofInt 64 ((2 ^ i - 1 : Nat) : Int)).toNat = 2 ^ i - 1 := by
    rw [BitVec.ofInt_natCast, BitVec.toNat_ofNat]
    exact Nat.mod_eq_of_lt (by omega)
  rw [BitVec.toNat_and, hb, Nat.and_two_pow_sub_one_eq_mod, BitVec.toNat_ofInt]
  have hm : 0 ≤ x % ((2 ^ 64 : Nat) : Int) := Int.emod_nonneg _ (by decide)
  have e : (((x % ((2 ^ 64 : Nat) : Int)).toNat % 2 ^ i : Nat) : Int) = x % ((2 ^ i : Nat) : Int) := by
    rw [Int.natCast_emod, Int.toNat_of_nonneg hm]
    have hd : ((2 ^ i : Nat) : Int) ∣ ((2 ^ 64 : Nat) : Int) := Int.natCast_dvd_natCast.2 (Nat.pow_dvd_pow 2 (by omega))
    exact Int.emod_emod_of_dvd x hd
  rw [e]
  have h1 : 0 ≤ x % ((2 ^ i : Nat) : Int) := Int.emod_nonneg _ (by omega)
  have h2 : x % ((2 ^ i : Nat) : Int) < ((2 ^ i : Nat) : Int) := Int.emod_lt_of_pos _ (by omega)
  rw [IntKind.wrap_i64]
  have h3 : ((2 ^ i : Nat) : Int) ≤ ((2 ^ 62 : Nat) : Int) := Int.ofNat_le.2 hle
  have h4 : ((2 ^ 62 : Nat) : Int) = 4611686018427387904 := by decide
  omega
theorem mask16 (x : Int) : Go.bits .and .i64 x 65535 = x % 65536 := mask_nat x 16 (by decide)
theorem mask4 (x : Int) : Go.bits .and .i64 x 15 = x % 16 := mask_nat x 4 (by decide)
theorem mask24 (x : Int) : Go.bits .and .i64 x 16777215 = x % 16777216 := mask_nat x 24 (by decide)
theorem mask3 (x : Int) : Go.bits .and .i64 x 7 = x % 8 := mask_nat x 3 (by decide)

/-- A number's n bytes, the greatest one first. -/
def be : Nat → Nat → List Nat
  | 0, _ => []
  | n + 1, v => be n (v / 256) ++ [v % 256]
/-- The number of bytes. -/
def num (l : List Nat) : Nat := l.foldl (fun v x => v * 256 + x) 0
theorem be_len (n v : Nat) : (be n v).length = n := by
  induction n generalizing v with
  | zero => rfl
  | succ n ih => simp [be, ih]
theorem be_byt (n v : Nat) : Byt (be n v) := by
  induction n generalizing v with
  | zero => exact Byt.nil
  | succ n ih => exact (ih _).append (Byt.cons (Nat.mod_lt _ (by decide)) Byt.nil)
theorem be_top (n v : Nat) : be (n + 1) v = (v / 256 ^ n % 256) :: be n v := by
  induction n generalizing v with
  | zero => simp [be]
  | succ n ih =>
    show be (n + 1) (v / 256) ++ [v % 256] = _
    rw [ih (v / 256), Nat.div_div_eq_div_mul, ← Nat.pow_succ']
    rfl
theorem num_snoc (l : List Nat) (x : Nat) : num (l ++ [x]) = num l * 256 + x := by simp [num, List.foldl_append]
theorem num_be (n v : Nat) : num (be n v) = v % 256 ^ n := by
  induction n generalizing v with
  | zero => simp [be, num, Nat.mod_one]
  | succ n ih =>
    rw [be, num_snoc, ih]
    have h := Nat.div_add_mod v 256
    have h2 := Nat.mod_mul (x := v) (a := 256) (b := 256 ^ n)
    rw [← Nat.pow_succ'] at h2
    rw [h2]
    omega
theorem num_lt {l : List Nat} (h : Byt l) : num l < 256 ^ l.length := by
  suffices ∀ (m : List Nat) (_ : Byt m) (a n : Nat), a < 256 ^ n → m.foldl (fun v x => v * 256 + x) a < 256 ^ (n + m.length) by
    simpa [num] using this l h 0 0 (by decide)
  intro m
  induction m with
  | nil => intro _ a n ha; simpa using ha
  | cons x r ih =>
    intro hm a n ha
    have hx : x < 256 := hm x (List.mem_cons_self)
    have := ih (fun y hy => hm y (List.mem_cons_of_mem _ hy)) (a * 256 + x) (n + 1) (by rw [Nat.pow_succ]; omega)
    simp only [List.foldl_cons, List.length_cons]
    rw [show n + (r.length + 1) = n + 1 + r.length by omega]
    exact this
theorem be_num (l : List Nat) (h : Byt l) : be l.length (num l) = l := by
  suffices ∀ n (m : List Nat), m.length = n → Byt m → be n (num m) = m from this _ l rfl h
  intro n
  induction n with
  | zero => intro m hm _; rw [List.eq_nil_of_length_eq_zero hm]; rfl
  | succ n ih =>
    intro m hm hb
    have hne : m ≠ [] := by
      intro e
      rw [e] at hm
      simp at hm
    obtain ⟨x, hx⟩ : ∃ x, m = m.dropLast ++ [x] := ⟨m.getLast hne, (List.dropLast_concat_getLast hne).symm⟩
    have hx2 : x < 256 := hb x (by rw [hx]; simp)
    have hl : m.dropLast.length = n := by simp [hm]
    have hb2 : Byt m.dropLast := fun y hy => hb y (by rw [hx]; exact List.mem_append_left _ hy)
    rw [hx, be, num_snoc]
    rw [show (num m.dropLast * 256 + x) / 256 = num m.dropLast by omega, show (num m.dropLast * 256 + x) % 256 = x by omega, ih _ hl hb2]
/-! ways of a function with rounds -/
theorem ev_succ {α : Type} {g : Nat → Option α} {r : α} (h : Ev (fun k => g (k + 1)) r) : Ev g r := Ev.step (fun _ => rfl) h
theorem ev_pos {α : Type} {c : Prop} [Decidable c] {f g : Nat → Option α} {r : α} (hc : c) (h : Ev f r) : Ev (fun k => if c then f k else g k) r := by
  simp only [if_pos hc]
  exact h
theorem ev_neg {α : Type} {c : Prop} [Decidable c] {f g : Nat → Option α} {r : α} (hc : ¬ c) (h : Ev g r) : Ev (fun k => if c then f k else g k) r := by
  simp only [if_neg hc]
  exact h
theorem ev_some {α β : Type} {f : Nat → α → Option β} {a : α} {r : β} (k : Ev (fun n => f n a) r) : Ev (fun n => (some a).bind (f n)) r := k
theorem ev_eq {α : Type} {g : Nat → Option α} {r s : α} (h : Ev g r) (e : r = s) : Ev g s := e ▸ h
theorem ev_now {α : Type} {r s : α} (e : r = s) : Ev (fun _ => some r) s := e ▸ Ev.now r
theorem ev_known {α : Type} {o : Option α} {r : α} (e : o = some r) : Ev (fun _ => o) r := e ▸ Ev.now r
theorem mn_le (a b : Int) : mn a b ≤ a ∧ mn a b ≤ b := by unfold mn; omega
theorem mn_nonneg {a b : Int} (ha : 0 ≤ a) (hb : 0 ≤ b) : 0 ≤ mn a b := by unfold mn; omega
/-- 's[:min(len(s), n)]' -/
theorem cut_size (s : ByteArray) (n : Nat) : (s.extract 0 (mn (s.size : Int) (n : Int)).toNat).size ≤ n := by
  rw [ByteArray.size_extract]
  have := mn_le (s.size : Int) (n : Int)
  omega
theorem size_nat (s : ByteArray) : (0 : Int) ≤ (s.size : Int) := Int.natCast_nonneg _
end Go.Proofs.YtbfjlhjfpmgplaaDoor.L
namespace Go.Proofs.YtbfjlhjfpmgplaaDoor.P
open Go Go.RowKit Go.Proofs.YtbfjlhjfpmgplaaDoorW.PrintWords Go.Proofs.YtbfjlhjfpmgplaaDoorW.PrintLast Go.Proofs.YtbfjlhjfpmgplaaDoorW.PrintMore Go.Proofs.YtbfjlhjfpmgplaaDoor.L

theorem shr_nat (v i : Nat) (hi : i ≤ 8) : shr .u64 (v : Int) (8 * (i : Int)) = ((v / 256 ^ i : Nat) : Int) := by
  unfold shr
  have e : min (8 * (i : Int)).toNat (IntKind.bits .u64) = 8 * i := by
    have h : IntKind.bits .u64 = 64 := rfl
    rw [h]
    omega
  rw [e, show (2 : Int) ^ (8 * i) = ((2 ^ (8 * i) : Nat) : Int) by norm_cast, Nat.pow_mul]
  rw [Int.natCast_ediv]
theorem put_l0_ev (v n : Nat) (hn : n ≤ 8) (d : Nat) : ∀ i : Nat, i ≤ n → n - i = d →
    Ev (fun k => octets_Put.l0 k (v : Int) (n : Int) (List.replicate (n - i) (0 : Int) ++ (be i v).map (fun (x : Nat) => (x : Int))) (n : Int) (i : Int)) (bs (be n v), 0) := by
  induction d with
  | zero =>
    intro i hi hd
    have e : i = n := by omega
    subst e
    refine ⟨1, fun k hk => ?_⟩
    obtain ⟨m, rfl⟩ : ∃ m, k = m + 1 := ⟨k - 1, by omega⟩
    simp only [octets_Put.l0]
    rw [if_neg (by omega)]
    rw [Nat.sub_self, List.replicate_zero, List.nil_append]
    have hb := be_byt i v
    rw [nums_bs _ (fun x hx => by
      obtain ⟨y, hy, rfl⟩ := List.mem_map.1 hx
      have := hb y hy
      omega)]
    rw [List.map_map]
    have : (Int.toNat ∘ fun (x : Nat) => (x : Int)) = id := by
      funext x
      simp
    rw [this, List.map_id]
  | succ d ih =>
    intro i hi hd
    have hlen : (List.replicate (n - i) (0 : Int) ++ (be i v).map (fun (x : Nat) => (x : Int))).length = n := by
      rw [List.length_append, List.length_replicate, List.length_map, be_len]
      omega
    refine Ev.step (f := fun k => octets_Put.l0 k (v : Int) (n : Int) (List.replicate (n - (i + 1)) (0 : Int) ++ (be (i + 1) v).map (fun (x : Nat) => (x : Int))) (n : Int) ((i + 1 : Nat) : Int)) (fun k => ?_) (ih (i + 1) (by omega) (by omega))
    simp only [octets_Put.l0]
    rw [if_pos (by omega), w64 (x := 8 * (i : Int)) (by omega) (by omega), if_pos (by omega), w64 (x := (n : Int) - 1) (by omega) (by omega), w64 (x := (n : Int) - 1 - (i : Int)) (by omega) (by omega), if_pos (by omega), hlen, if_pos (by omega), w64 (x := (i : Int) + 1) (by omega) (by omega)]
    rw [shr_nat v i (by omega)]
    have ei : ((n : Int) - 1 - (i : Int)).toNat = n - (i + 1) := by omega
    have es : (List.replicate (n - i) (0 : Int) ++ (be i v).map (fun (x : Nat) => (x : Int))).set (n - (i + 1)) (((v / 256 ^ i : Nat) : Int) % 256) = List.replicate (n - (i + 1)) (0 : Int) ++ (be (i + 1) v).map (fun (x : Nat) => (x : Int)) := by
      rw [be_top]
      rw [show n - i = (n - (i + 1)) + 1 by omega, List.replicate_succ', List.append_assoc]
      rw [List.set_append_right _ _ (by simp)]
      simp
    rw [ei, es]
    rfl
/-- Put of a number that goes. -/
theorem put_ev {v n : Nat} (h1 : 1 ≤ n) (h8 : n ≤ 8) (hv : v < 256 ^ n) : Ev (fun k => octets_Put.f k (v : Int) (n : Int)) (bs (be n v), 0) := by
  have hl : Ev (fun k => octets_Put.j0 k (v : Int) (n : Int) false) (bs (be n v), 0) := by
    refine Ev.step (f := fun k => octets_Put.l0 k (v : Int) (n : Int) (List.replicate n (0 : Int)) (n : Int) 0) (fun k => ?_) ?_
    · simp only [octets_Put.j0]
      rw [if_neg (by simp), if_pos (by omega), if_pos (by omega)]
      simp
    · have := put_l0_ev v n h8 n 0 (Nat.zero_le _) (by omega)
      simpa [be] using this
  unfold octets_Put.f
  by_cases h : n < 8
  · simp only [if_neg (show ¬ (n : Int) < 1 by omega), if_neg (show ¬ (n : Int) > 8 by omega), if_pos (show (n : Int) < 8 by omega), w64 (x := 8 * (n : Int)) (by omega) (by omega), if_pos (show 0 ≤ 8 * (n : Int) by omega), shr_nat v n h8, Nat.div_eq_of_lt hv]
    exact hl
  · simp only [if_neg (show ¬ (n : Int) < 1 by omega), if_neg (show ¬ (n : Int) > 8 by omega), if_neg (show ¬ (n : Int) < 8 by omega)]
    exact hl
theorem put_j0_bad (v n : Int) : Ev (fun k => octets_Put.j0 k v n true) ((⟨#[]⟩ : ByteArray), 1) := by
  refine ⟨1, fun k hk => ?_⟩
  obtain ⟨m, rfl⟩ : ∃ m, k = m + 1 := ⟨k - 1, by omega⟩
  simp only [octets_Put.j0, if_true]
/-- Put of one that does not go. -/
theorem put_bad_ev {v : Nat} {n : Int} (h : n < 1 ∨ 8 < n ∨ (n < 8 ∧ 256 ^ n.toNat ≤ v)) : Ev (fun k => octets_Put.f k (v : Int) n) ((⟨#[]⟩ : ByteArray), 1) := by
  unfold octets_Put.f
  by_cases h1 : n < 1
  · simp only [if_pos h1]
    exact put_j0_bad _ _
  · by_cases h8 : n > 8
    · simp only [if_neg h1, if_pos h8]
      exact put_j0_bad _ _
    · obtain ⟨m, rfl⟩ := Int.eq_ofNat_of_zero_le (show 0 ≤ n by omega)
      have h2 : (m : Int) < 8 ∧ 256 ^ m ≤ v := by
        rcases h with h | h | h
        · omega
        · omega
        · simpa using h
      have hd : 0 < v / 256 ^ m := Nat.div_pos h2.2 (Nat.pow_pos (by decide))
      have hne : (((v / 256 ^ m : Nat) : Int) != 0) = true := by
        rw [bne_iff_ne]
        omega
      simp only [if_neg h1, if_neg h8, if_pos h2.1, w64 (x := 8 * (m : Int)) (by omega) (by omega), if_pos (show 0 ≤ 8 * (m : Int) by omega), shr_nat v m (by omega), hne]
      exact put_j0_bad _ _

theorem bytes_l0_ev (n : Nat) (hn : n ≤ 1000) (d : Nat) : ∀ (i v : Nat) (s : ByteArray), v < 18446744073709551616 → i ≤ n → n - i = d → s.size = i →
    Ev (fun k => gangwayref01_Bytes.l0 k (v : Int) (n : Int) s (i : Int)) (bs (be d v) ++ s) := by
  induction d with
  | zero =>
    intro i v s hv hi hd hs
    refine ⟨1, fun k hk => ?_⟩
    obtain ⟨m, rfl⟩ : ∃ m, k = m + 1 := ⟨k - 1, by omega⟩
    simp only [gangwayref01_Bytes.l0]
    rw [if_neg (by omega)]
    congr 1
  | succ d ih =>
    intro i v s hv hi hd hs
    have e1 : strOfNums [((v : Int).tmod 256) % 256] = bs [v % 256] := by
      have hx : (v : Int).tmod 256 % 256 = ((v % 256 : Nat) : Int) := by
        rw [Int.tmod_eq_emod_of_nonneg (by omega)]
        omega
      rw [hx, nums_bs _ (by simp; omega), List.map_cons, List.map_nil, Int.toNat_natCast]
    refine Ev.step (f := fun k => gangwayref01_Bytes.l0 k ((v / 256 : Nat) : Int) (n : Int) (bs [v % 256] ++ s) ((i + 1 : Nat) : Int)) (fun k => ?_) ?_
    · simp only [gangwayref01_Bytes.l0, Option.bind_some]
      rw [if_pos (by omega), e1, bs_size, List.length_singleton, hs, if_pos (by omega), w64 (x := (i : Int) + 1) (by omega) (by omega)]
      rw [Int.tdiv_eq_ediv_of_nonneg (by omega), u64w (by omega) (by omega)]
      rfl
    · have := ih (i + 1) (v / 256) (bs [v % 256] ++ s) (by omega) (by omega) (by omega) (by rw [ByteArray.size_append, bs_size, hs]; simp; omega)
      rw [be, bs_append]
      rw [ByteArray.append_assoc]
      exact this
theorem bytes_ev {v n : Nat} (hn : n ≤ 1000) (hv : v < 18446744073709551616) : Ev (fun k => gangwayref01_Bytes.f k (v : Int) (n : Int)) (bs (be n v)) := by
  have := bytes_l0_ev n hn n 0 v (⟨#[]⟩ : ByteArray) hv (Nat.zero_le _) (by omega) rfl
  have e : bs (be n v) ++ (⟨#[]⟩ : ByteArray) = bs (be n v) := by
    apply ByteArray.ext
    rw [ByteArray.data_append]
    simp
  rw [e] at this
  exact this
end Go.Proofs.YtbfjlhjfpmgplaaDoor.P
namespace Go.Proofs.YtbfjlhjfpmgplaaDoor.P
open Go Go.RowKit Go.Proofs.YtbfjlhjfpmgplaaDoorW.PrintWords Go.Proofs.YtbfjlhjfpmgplaaDoorW.PrintLast Go.Proofs.YtbfjlhjfpmgplaaDoorW.PrintMore Go.Proofs.YtbfjlhjfpmgplaaDoor.L

theorem wraps_u64 (n : Int) (h₀ : 0 ≤ n) (h₁ : n < 2 ^ 64) : IntKind.u64.wrap n = n := u64w h₀ (by
  have : (2 : Int) ^ 64 = 18446744073709551616 := by decide
  omega)
theorem or_byte {v x : Nat} (hv : v * 256 < 18446744073709551616) (hx : x < 256) : Go.bits .or .u64 (IntKind.u64.wrap ((v : Int) * 256)) (IntKind.u64.wrap (x : Int)) = ((v * 256 + x : Nat) : Int) := by
  rw [u64w (by omega) (by omega), u64w (by omega) (by omega)]
  have e : (2 : Int) ^ 64 = 18446744073709551616 := by decide
  have e8 : (2 : Int) ^ 8 = 256 := by decide
  rw [Go.bits_join .u64 64 (by decide) wraps_u64 8 ((v : Int) * 256) (x : Int) (by omega) (by rw [e8]; omega) (by rw [e]; omega) (by omega) (by rw [e8]; omega) (by rw [e]; omega)]
  omega
theorem num_take_lt {l : List Nat} (h : Byt l) {m : Nat} (hm : m ≤ 7) : num (l.take m) * 256 < 18446744073709551616 := by
  have h1 := num_lt (h.take m)
  have h2 : (l.take m).length ≤ 7 := by rw [List.length_take]; omega
  have h3 : 256 ^ (l.take m).length ≤ 256 ^ 7 := Nat.pow_le_pow_right (by decide) h2
  have h4 : (256 : Nat) ^ 7 = 72057594037927936 := by decide
  omega
theorem take_succ_getD {l : List Nat} {i : Nat} (h : i < l.length) : l.take (i + 1) = l.take i ++ [l.getD i 0] := by
  rw [List.take_succ_eq_append_getElem h]
  simp [List.getD_eq_getElem?_getD, List.getElem?_eq_getElem h]
theorem getD_byte {l : List Nat} (h : Byt l) (i : Nat) : l.getD i 0 < 256 := by
  rw [List.getD_eq_getElem?_getD]
  by_cases hi : i < l.length
  · rw [List.getElem?_eq_getElem hi]
    exact h _ (List.getElem_mem hi)
  · rw [List.getElem?_eq_none (by omega)]
    decide
theorem get_l0_ev (t : ByteArray) (n : Nat) (hn : n ≤ 8) (ht : t.size = n) (d : Nat) : ∀ i : Nat, i ≤ n → n - i = d →
    Ev (fun k => octets_Get.l0 k t ((num ((nb t).take i) : Nat) : Int) (n : Int) (i : Int)) (((num (nb t) : Nat) : Int), 0) := by
  have hl := nb_len t
  have hby := nb_byt t
  induction d with
  | zero =>
    intro i hi hd
    refine ⟨1, fun k hk => ?_⟩
    obtain ⟨m, rfl⟩ : ∃ m, k = m + 1 := ⟨k - 1, by omega⟩
    simp only [octets_Get.l0]
    rw [if_neg (by omega), List.take_of_length_le (by omega)]
  | succ d ih =>
    intro i hi hd
    have hlt : i < (nb t).length := by omega
    have hb := getD_byte hby i
    have hv := num_take_lt (m := i) hby (by omega)
    refine Ev.step (f := fun k => octets_Get.l0 k t ((num ((nb t).take (i + 1)) : Nat) : Int) (n : Int) ((i + 1 : Nat) : Int)) (fun k => ?_) (ih (i + 1) (by omega) (by omega))
    simp only [octets_Get.l0]
    rw [if_pos (by omega), if_pos (by omega), if_pos (by omega), bt_nb, Int.toNat_natCast, or_byte hv hb, w64 (x := (i : Int) + 1) (by omega) (by omega), take_succ_getD hlt, num_snoc]
    rfl
theorem num_l0_ev (t : ByteArray) (ht : t.size ≤ 8) (d : Nat) : ∀ i : Nat, i ≤ t.size → t.size - i = d →
    Ev (fun k => gangwayref01_Num.l0 k t ((num ((nb t).take i) : Nat) : Int) (i : Int)) ((num (nb t) : Nat) : Int) := by
  have hl := nb_len t
  have hby := nb_byt t
  induction d with
  | zero =>
    intro i hi hd
    refine ⟨1, fun k hk => ?_⟩
    obtain ⟨m, rfl⟩ : ∃ m, k = m + 1 := ⟨k - 1, by omega⟩
    simp only [gangwayref01_Num.l0]
    rw [if_neg (by omega), List.take_of_length_le (by omega)]
  | succ d ih =>
    intro i hi hd
    have hlt : i < (nb t).length := by omega
    have hb := getD_byte hby i
    have hv := num_take_lt (m := i) hby (by omega)
    refine Ev.step (f := fun k => gangwayref01_Num.l0 k t ((num ((nb t).take (i + 1)) : Nat) : Int) ((i + 1 : Nat) : Int)) (fun k => ?_) (ih (i + 1) (by omega) (by omega))
    simp only [gangwayref01_Num.l0]
    rw [if_pos (by omega), if_pos (by omega), bt_nb, Int.toNat_natCast, u64w (x := ((num ((nb t).take i) : Nat) : Int) * 256) (by omega) (by omega), u64w (x := (((nb t).getD i 0 : Nat) : Int)) (by omega) (by omega), u64w (by omega) (by omega), w64 (x := (i : Int) + 1) (by omega) (by omega), take_succ_getD hlt, num_snoc]
    congr 1
theorem num_ev {t : ByteArray} (ht : t.size ≤ 8) : Ev (fun k => gangwayref01_Num.f k t) ((num (nb t) : Nat) : Int) := by
  have := num_l0_ev t ht t.size 0 (Nat.zero_le _) rfl
  show Ev (fun k => gangwayref01_Num.l0 k t 0 0) _
  simpa [num] using this
/-- The number at a place of bytes. -/
def numAt (l : List Nat) (i n : Nat) : Nat := num ((l.drop i).take n)
theorem numAt_lt {l : List Nat} (h : Byt l) (i n : Nat) : numAt l i n < 256 ^ n := by
  have h1 := num_lt ((h.drop i).take n)
  have h2 : ((l.drop i).take n).length ≤ n := by rw [List.length_take]; omega
  have h3 : 256 ^ ((l.drop i).take n).length ≤ 256 ^ n := Nat.pow_le_pow_right (by decide) h2
  exact Nat.lt_of_lt_of_le h1 h3
theorem get_ev {s : ByteArray} {i n : Nat} (h1 : 1 ≤ n) (h8 : n ≤ 8) (hi : i + n ≤ s.size) (hs : s.size ≤ 1099511627776) : Ev (fun k => octets_Get.f k s (i : Int) (n : Int)) (((numAt (nb s) i n : Nat) : Int), 0) := by
  have hp : octets_part.f s (i : Int) (n : Int) = some (s.extract i (i + n), none) := by
    unfold octets_part.f
    rw [if_pos (by omega), if_pos (by omega), if_pos (by omega), if_pos hs]
    rfl
  have hn : nb (s.extract i (i + n)) = ((nb s).drop i).take n := by
    rw [nb_extract, List.drop_take, Nat.add_sub_cancel_left]
  unfold octets_Get.f
  refine ev_neg (by omega) ?_
  rw [decide_eq_false (by omega)]
  refine ev_succ ?_
  simp only [octets_Get.j0, Bool.false_eq_true, if_false]
  rw [hp]
  refine ev_some (ev_pos rfl ?_)
  have := get_l0_ev (s.extract i (i + n)) n h8 (by rw [ByteArray.size_extract]; omega) n 0 (Nat.zero_le _) rfl
  rw [hn] at this
  exact this
end Go.Proofs.YtbfjlhjfpmgplaaDoor.P
namespace Go.Proofs.YtbfjlhjfpmgplaaDoor.P
set_option linter.unusedSimpArgs false
set_option linter.unusedVariables false
open Go Go.RowKit Go.Proofs.YtbfjlhjfpmgplaaDoorW.PrintWords Go.Proofs.YtbfjlhjfpmgplaaDoorW.PrintLast Go.Proofs.YtbfjlhjfpmgplaaDoorW.PrintMore Go.Proofs.YtbfjlhjfpmgplaaDoor.L

/-- A message: its kind, flags, role, root, cost, bridge, port, times. -/
structure Msg where
  kind : Int
  ch : Bool
  pr : Bool
  le : Bool
  fo : Bool
  ag : Bool
  ac : Bool
  role : Int
  root : Nat
  cost : Int
  bridge : Nat
  port : Int
  age : Int
  mage : Int
  hello : Int
  delay : Int
deriving DecidableEq
/-- The message of BpduChange. -/
def mchange : Msg := ⟨128, false, false, false, false, false, false, 0, 0, 0, 0, 0, 0, 0, 0, 0⟩
def mzero : Msg := ⟨0, false, false, false, false, false, false, 0, 0, 0, 0, 0, 0, 0, 0, 0⟩
/-- Are the numbers right? -/
def Msg.right (m : Msg) : Bool := decide (0 ≤ m.role) && decide (m.role ≤ 3) && (decide (0 ≤ m.cost) && decide (m.cost ≤ 4294967295)) && (decide (0 ≤ m.port) && decide (m.port ≤ 65535)) && (decide (0 ≤ m.age) && decide (m.age ≤ 65535)) && (decide (0 ≤ m.mage) && decide (m.mage ≤ 65535)) && (decide (0 ≤ m.hello) && decide (m.hello ≤ 65535)) && (decide (0 ≤ m.delay) && decide (m.delay ≤ 65535))
def Msg.slow (m : Msg) : Bool := !m.pr && !m.le && !m.fo && !m.ag && decide (m.role = 0)
/-- May a message be? -/
def Msg.ok (m : Msg) : Bool := if m.kind = 128 then decide (m = mchange) else if m.kind = 0 then m.right && m.slow else if m.kind = 2 then m.right else false
def bitN (b : Bool) (n : Nat) : Nat := if b = true then n else 0
/-- The flags' byte. -/
def Msg.flags (m : Msg) : Nat := bitN m.ch 1 + bitN m.pr 2 + 4 * m.role.toNat + bitN m.le 16 + bitN m.fo 32 + bitN m.ag 64 + bitN m.ac 128
/-- The bytes of the numbers. -/
def Msg.nums (m : Msg) : List Nat := be 8 m.root ++ (be 4 m.cost.toNat ++ (be 8 m.bridge ++ (be 2 m.port.toNat ++ (be 2 m.age.toNat ++ (be 2 m.mage.toNat ++ (be 2 m.hello.toNat ++ be 2 m.delay.toNat))))))
def bhead : List Nat := [66, 66, 3, 0, 0]
/-- A message's bytes. -/
def Msg.bytes (m : Msg) : List Nat := if m.kind = 128 then bhead ++ [0, 128] else if m.kind = 2 then bhead ++ ([2, 2] ++ ([m.flags] ++ (m.nums ++ [0]))) else bhead ++ ([0, 0] ++ ([m.flags] ++ m.nums))
theorem Msg.right_iff {m : Msg} : m.right = true ↔ (0 ≤ m.role ∧ m.role ≤ 3) ∧ (0 ≤ m.cost ∧ m.cost ≤ 4294967295) ∧ (0 ≤ m.port ∧ m.port ≤ 65535) ∧ (0 ≤ m.age ∧ m.age ≤ 65535) ∧ (0 ≤ m.mage ∧ m.mage ≤ 65535) ∧ (0 ≤ m.hello ∧ m.hello ≤ 65535) ∧ (0 ≤ m.delay ∧ m.delay ≤ 65535) := by
  unfold Msg.right
  simp [and_assoc]
theorem bitN_le (b : Bool) (n : Nat) : bitN b n ≤ n := by
  unfold bitN
  split <;> omega
theorem Msg.flags_lt {m : Msg} (h : m.right = true) : m.flags < 256 := by
  have h1 := (Msg.right_iff.1 h).1
  have a1 := bitN_le m.ch 1
  have a2 := bitN_le m.pr 2
  have a3 := bitN_le m.le 16
  have a4 := bitN_le m.fo 32
  have a5 := bitN_le m.ag 64
  have a6 := bitN_le m.ac 128
  unfold Msg.flags
  omega
theorem Msg.nums_len (m : Msg) : m.nums.length = 30 := by simp [Msg.nums, be_len]
theorem Msg.nums_byt (m : Msg) : Byt m.nums := (be_byt _ _).append ((be_byt _ _).append ((be_byt _ _).append ((be_byt _ _).append ((be_byt _ _).append ((be_byt _ _).append ((be_byt _ _).append (be_byt _ _)))))))
theorem bhead_byt : Byt bhead := by
  intro x hx
  simp [bhead] at hx
  omega
theorem Msg.bytes_byt {m : Msg} (h : m.kind = 128 ∨ m.right = true) : Byt m.bytes := by
  unfold Msg.bytes
  by_cases h1 : m.kind = 128
  · rw [if_pos h1]
    exact bhead_byt.append (Byt.cons (by decide) (Byt.cons (by decide) Byt.nil))
  · rw [if_neg h1]
    have hf := Msg.flags_lt (h.resolve_left h1)
    split
    · exact bhead_byt.append ((Byt.cons (by decide) (Byt.cons (by decide) Byt.nil)).append ((Byt.cons hf Byt.nil).append (m.nums_byt.append (Byt.cons (by decide) Byt.nil))))
    · exact bhead_byt.append ((Byt.cons (by decide) (Byt.cons (by decide) Byt.nil)).append ((Byt.cons hf Byt.nil).append m.nums_byt))
theorem Msg.ok_right {m : Msg} (h : m.ok = true) : m.kind = 128 ∧ m = mchange ∨ m.kind ≠ 128 ∧ m.right = true ∧ (m.kind = 0 ∧ m.slow = true ∨ m.kind = 2) := by
  unfold Msg.ok at h
  by_cases h1 : m.kind = 128
  · rw [if_pos h1] at h
    exact Or.inl ⟨h1, of_decide_eq_true h⟩
  · rw [if_neg h1] at h
    by_cases h2 : m.kind = 0
    · rw [if_pos h2] at h
      obtain ⟨h3, h4⟩ := Bool.and_eq_true_iff.1 h
      exact Or.inr ⟨h1, h3, Or.inl ⟨h2, h4⟩⟩
    · rw [if_neg h2] at h
      by_cases h3 : m.kind = 2
      · rw [if_pos h3] at h
        exact Or.inr ⟨h1, h, Or.inr h3⟩
      · rw [if_neg h3] at h
        cases h
theorem Msg.bytes_len {m : Msg} : m.bytes.length = if m.kind = 128 then 7 else if m.kind = 2 then 39 else 38 := by
  unfold Msg.bytes
  split
  · rfl
  · split
    · simp [bhead, Msg.nums_len]
    · simp [bhead, Msg.nums_len]
/-- The numbers that bytes tell, with a kind's flags. -/
def told (l : List Nat) : Msg := ⟨0, decide (l.getD 7 0 % 2 = 1), false, false, false, false, decide (l.getD 7 0 / 128 % 2 = 1), 0, numAt l 8 8, ((numAt l 16 4 : Nat) : Int), numAt l 20 8, ((numAt l 28 2 : Nat) : Int), ((numAt l 30 2 : Nat) : Int), ((numAt l 32 2 : Nat) : Int), ((numAt l 34 2 : Nat) : Int), ((numAt l 36 2 : Nat) : Int)⟩
def quick (m : Msg) (f : Nat) : Msg := { m with kind := 2, pr := decide (f / 2 % 2 = 1), le := decide (f / 16 % 2 = 1), fo := decide (f / 32 % 2 = 1), ag := decide (f / 64 % 2 = 1), role := ((f / 4 % 4 : Nat) : Int) }
/-- What bytes tell. -/
def bparse (l : List Nat) : Msg × Int :=
  if l.length < 7 then (mzero, 90)
  else if l.take 5 ≠ bhead then (mzero, 91)
  else if (l.drop 5).take 2 = [0, 128] then (mchange, 0)
  else if (l.drop 5).take 2 = [0, 0] then (if l.length < 38 then (mzero, 90) else (told l, 0))
  else if (l.drop 5).take 2 = [2, 2] then (if l.length < 39 then (mzero, 90) else (quick (told l) (l.getD 7 0), 0))
  else (mzero, 91)
theorem b_numAt_be {p : List Nat} (q : List Nat) {n v i : Nat} (hp : p.length = i) (hv : v < 256 ^ n) : numAt (p ++ (be n v ++ q)) i n = v := by
  unfold numAt
  rw [List.drop_append_of_le_length (by rw [hp]; exact Nat.le_refl _), List.drop_of_length_le (by rw [hp]; exact Nat.le_refl _), List.nil_append, List.take_append_of_le_length (by rw [be_len]; exact Nat.le_refl _), List.take_of_length_le (by rw [be_len]; exact Nat.le_refl _), num_be]
  exact Nat.mod_eq_of_lt hv
theorem told_bytes {m : Msg} (k f : List Nat) (x : Nat) (more : List Nat) (hk : k.length = 7) (hr : m.right = true) (h1 : m.root < 18446744073709551616) (h2 : m.bridge < 18446744073709551616) :
    told (k ++ ([x] ++ (m.nums ++ more))) = ⟨0, decide (x % 2 = 1), false, false, false, false, decide (x / 128 % 2 = 1), 0, m.root, m.cost, m.bridge, m.port, m.age, m.mage, m.hello, m.delay⟩ := by
  obtain ⟨_, ⟨c0, c1⟩, ⟨p0, p1⟩, ⟨a0, a1⟩, ⟨m0, m1⟩, ⟨e0, e1⟩, ⟨d0, d1⟩⟩ := Msg.right_iff.1 hr
  have e2 : (256 : Nat) ^ 2 = 65536 := by decide
  have e4 : (256 : Nat) ^ 4 = 4294967296 := by decide
  have e8 : (256 : Nat) ^ 8 = 18446744073709551616 := by decide
  have g7 : (k ++ ([x] ++ (m.nums ++ more))).getD 7 0 = x := by
    rw [List.getD_eq_getElem?_getD, List.getElem?_append_right (by omega), hk]
    rfl
  have fl : k ++ ([x] ++ (m.nums ++ more)) = (k ++ [x]) ++ (be 8 m.root ++ (be 4 m.cost.toNat ++ (be 8 m.bridge ++ (be 2 m.port.toNat ++ (be 2 m.age.toNat ++ (be 2 m.mage.toNat ++ (be 2 m.hello.toNat ++ (be 2 m.delay.toNat ++ more)))))))) := by
    unfold Msg.nums
    simp only [List.append_assoc]
  have n1 : numAt (k ++ ([x] ++ (m.nums ++ more))) 8 8 = m.root := by
    rw [fl]
    exact b_numAt_be _ (by simp [hk]) (by omega)
  have n2 : numAt (k ++ ([x] ++ (m.nums ++ more))) 16 4 = m.cost.toNat := by
    rw [fl, ← List.append_assoc]
    exact b_numAt_be _ (by simp [hk, be_len]) (by omega)
  have n3 : numAt (k ++ ([x] ++ (m.nums ++ more))) 20 8 = m.bridge := by
    rw [fl, ← List.append_assoc, ← List.append_assoc]
    exact b_numAt_be _ (by simp [hk, be_len]) (by omega)
  have n4 : numAt (k ++ ([x] ++ (m.nums ++ more))) 28 2 = m.port.toNat := by
    rw [fl, ← List.append_assoc, ← List.append_assoc, ← List.append_assoc]
    exact b_numAt_be _ (by simp [hk, be_len]) (by omega)
  have n5 : numAt (k ++ ([x] ++ (m.nums ++ more))) 30 2 = m.age.toNat := by
    rw [fl, ← List.append_assoc, ← List.append_assoc, ← List.append_assoc, ← List.append_assoc]
    exact b_numAt_be _ (by simp [hk, be_len]) (by omega)
  have n6 : numAt (k ++ ([x] ++ (m.nums ++ more))) 32 2 = m.mage.toNat := by
    rw [fl, ← List.append_assoc, ← List.append_assoc, ← List.append_assoc, ← List.append_assoc, ← List.append_assoc]
    exact b_numAt_be _ (by simp [hk, be_len]) (by omega)
  have n7 : numAt (k ++ ([x] ++ (m.nums ++ more))) 34 2 = m.hello.toNat := by
    rw [fl, ← List.append_assoc, ← List.append_assoc, ← List.append_assoc, ← List.append_assoc, ← List.append_assoc, ← List.append_assoc]
    exact b_numAt_be _ (by simp [hk, be_len]) (by omega)
  have n8 : numAt (k ++ ([x] ++ (m.nums ++ more))) 36 2 = m.delay.toNat := by
    rw [fl, ← List.append_assoc, ← List.append_assoc, ← List.append_assoc, ← List.append_assoc, ← List.append_assoc, ← List.append_assoc, ← List.append_assoc]
    exact b_numAt_be _ (by simp [hk, be_len]) (by omega)
  unfold told
  rw [g7, n1, n2, n3, n4, n5, n6, n7, n8, Int.toNat_of_nonneg c0, Int.toNat_of_nonneg p0, Int.toNat_of_nonneg a0, Int.toNat_of_nonneg m0, Int.toNat_of_nonneg e0, Int.toNat_of_nonneg d0]
theorem flags_tell {ch pr le fo ag ac : Bool} {r : Nat} (hr : r ≤ 3) (f : Nat) (hf : f = bitN ch 1 + bitN pr 2 + 4 * r + bitN le 16 + bitN fo 32 + bitN ag 64 + bitN ac 128) :
    decide (f % 2 = 1) = ch ∧ decide (f / 128 % 2 = 1) = ac ∧ decide (f / 2 % 2 = 1) = pr ∧ decide (f / 16 % 2 = 1) = le ∧ decide (f / 32 % 2 = 1) = fo ∧ decide (f / 64 % 2 = 1) = ag ∧ f / 4 % 4 = r := by
  subst hf
  match r, hr with
  | 0, _ => cases ch <;> cases pr <;> cases le <;> cases fo <;> cases ag <;> cases ac <;> decide
  | 1, _ => cases ch <;> cases pr <;> cases le <;> cases fo <;> cases ag <;> cases ac <;> decide
  | 2, _ => cases ch <;> cases pr <;> cases le <;> cases fo <;> cases ag <;> cases ac <;> decide
  | 3, _ => cases ch <;> cases pr <;> cases le <;> cases fo <;> cases ag <;> cases ac <;> decide
/-- What is built is parsed as it was, whatever stands behind. -/
theorem built_msg {m : Msg} (hok : m.ok = true) (h1 : m.root < 18446744073709551616) (h2 : m.bridge < 18446744073709551616) (more : List Nat) : bparse (m.bytes ++ more) = (m, 0) := by
  rcases Msg.ok_right hok with ⟨hk, hm⟩ | ⟨hk, hr, hs⟩
  · have e : m.bytes = bhead ++ [0, 128] := by
      unfold Msg.bytes
      rw [if_pos hk]
    rw [e]
    unfold bparse
    rw [if_neg (by simp [bhead]), if_neg (by simp [bhead]), if_pos (by simp [bhead]), hm]
  · obtain ⟨r0, r3⟩ := (Msg.right_iff.1 hr).1
    have ft := flags_tell (ch := m.ch) (pr := m.pr) (le := m.le) (fo := m.fo) (ag := m.ag) (ac := m.ac) (r := m.role.toNat) (by omega) m.flags rfl
    obtain ⟨f1, f2, f3, f4, f5, f6, f7⟩ := ft
    rcases hs with ⟨h0, hs⟩ | h0
    · have e : m.bytes ++ more = (bhead ++ [0, 0]) ++ ([m.flags] ++ (m.nums ++ more)) := by
        unfold Msg.bytes
        rw [if_neg hk, if_neg (by omega)]
        simp only [List.append_assoc]
      have t := told_bytes (m := m) (bhead ++ [0, 0]) [] m.flags more (by rfl) hr h1 h2
      rw [e]
      unfold bparse
      rw [if_neg (by simp [bhead]), if_neg (by simp [bhead]), if_neg (by simp [bhead]), if_pos (by simp [bhead]), if_neg (by simp [bhead, Msg.nums_len]), t, f1, f2]
      unfold Msg.slow at hs
      simp at hs
      obtain ⟨⟨⟨⟨s1, s2⟩, s3⟩, s4⟩, s5⟩ := hs
      cases m
      simp_all
    · have e : m.bytes ++ more = (bhead ++ [2, 2]) ++ ([m.flags] ++ (m.nums ++ ([0] ++ more))) := by
        unfold Msg.bytes
        rw [if_neg hk, if_pos h0]
        simp only [List.append_assoc]
      have t := told_bytes (m := m) (bhead ++ [2, 2]) [] m.flags ([0] ++ more) (by rfl) hr h1 h2
      have g7 : ((bhead ++ [2, 2]) ++ ([m.flags] ++ (m.nums ++ ([0] ++ more)))).getD 7 0 = m.flags := rfl
      rw [e]
      unfold bparse
      rw [if_neg (by simp [bhead]), if_neg (by simp [bhead]), if_neg (by simp [bhead]), if_neg (by simp [bhead]), if_pos (by simp [bhead]), if_neg (by simp [bhead, Msg.nums_len]; omega), t, g7]
      unfold quick
      rw [f1, f2, f3, f4, f5, f6, f7, Int.toNat_of_nonneg r0]
      cases m
      simp_all
end Go.Proofs.YtbfjlhjfpmgplaaDoor.P
namespace Go.Proofs.YtbfjlhjfpmgplaaDoor.P
set_option linter.unusedSimpArgs false
set_option linter.unusedVariables false
open Go Go.RowKit Go.Proofs.YtbfjlhjfpmgplaaDoorW.PrintWords Go.Proofs.YtbfjlhjfpmgplaaDoorW.PrintLast Go.Proofs.YtbfjlhjfpmgplaaDoorW.PrintMore Go.Proofs.YtbfjlhjfpmgplaaDoor.L

theorem told_right {l : List Nat} (hb : Byt l) : (told l).right = true ∧ (told l).root < 18446744073709551616 ∧ (told l).bridge < 18446744073709551616 := by
  have e2 : (256 : Nat) ^ 2 = 65536 := by decide
  have e4 : (256 : Nat) ^ 4 = 4294967296 := by decide
  have e8 : (256 : Nat) ^ 8 = 18446744073709551616 := by decide
  have h1 := numAt_lt hb 8 8
  have h2 := numAt_lt hb 16 4
  have h3 := numAt_lt hb 20 8
  have h4 := numAt_lt hb 28 2
  have h5 := numAt_lt hb 30 2
  have h6 := numAt_lt hb 32 2
  have h7 := numAt_lt hb 34 2
  have h8 := numAt_lt hb 36 2
  refine ⟨Msg.right_iff.2 ?_, by show numAt l 8 8 < _; omega, by show numAt l 20 8 < _; omega⟩
  simp only [told]
  omega
theorem quick_right {m : Msg} (h : m.right = true) (f : Nat) : (quick m f).right = true := by
  obtain ⟨_, h2⟩ := Msg.right_iff.1 h
  refine Msg.right_iff.2 ⟨?_, h2⟩
  simp only [quick]
  omega
/-- What is parsed may be, and has no more bytes. -/
theorem parsed_ok {l : List Nat} (hb : Byt l) {m : Msg} (h : bparse l = (m, 0)) : m.ok = true ∧ m.root < 18446744073709551616 ∧ m.bridge < 18446744073709551616 ∧ m.bytes.length ≤ l.length := by
  unfold bparse at h
  obtain ⟨q1, q2, q3⟩ := told_right hb
  by_cases c1 : l.length < 7
  · rw [if_pos c1] at h
    simp at h
  rw [if_neg c1] at h
  by_cases c2 : l.take 5 ≠ bhead
  · rw [if_pos c2] at h
    simp at h
  rw [if_neg c2] at h
  by_cases c3 : (l.drop 5).take 2 = [0, 128]
  · rw [if_pos c3] at h
    obtain rfl := (Prod.mk.inj h).1
    rw [Msg.bytes_len]
    refine ⟨by decide, by decide, by decide, ?_⟩
    rw [if_pos (show mchange.kind = 128 from rfl)]
    omega
  rw [if_neg c3] at h
  by_cases c4 : (l.drop 5).take 2 = [0, 0]
  · rw [if_pos c4] at h
    by_cases c5 : l.length < 38
    · rw [if_pos c5] at h
      simp at h
    rw [if_neg c5] at h
    obtain rfl := (Prod.mk.inj h).1
    rw [Msg.bytes_len]
    refine ⟨?_, q2, q3, ?_⟩
    · unfold Msg.ok
      rw [if_neg (by simp [told]), if_pos (by simp [told]), q1]
      rfl
    · rw [if_neg (by simp [told]), if_neg (by simp [told])]
      omega
  rw [if_neg c4] at h
  by_cases c6 : (l.drop 5).take 2 = [2, 2]
  · rw [if_pos c6] at h
    by_cases c5 : l.length < 39
    · rw [if_pos c5] at h
      simp at h
    rw [if_neg c5] at h
    obtain rfl := (Prod.mk.inj h).1
    rw [Msg.bytes_len]
    refine ⟨?_, q2, q3, ?_⟩
    · unfold Msg.ok
      rw [if_neg (by simp [quick]), if_neg (by simp [quick]), if_pos (by simp [quick])]
      exact quick_right q1 _
    · rw [if_neg (by simp [quick]), if_pos (by simp [quick])]
      omega
  rw [if_neg c6] at h
  simp at h
/-- What is wrong is told beside no message. -/
theorem parsed_bad {l : List Nat} {m : Msg} {e : Int} (h : bparse l = (m, e)) (he : e ≠ 0) : m = mzero := by
  unfold bparse at h
  repeat' split at h
  all_goals
    obtain ⟨rfl, rfl⟩ := Prod.mk.inj h
    first | rfl | exact absurd rfl he
/-- What is cut short is none. -/
theorem short_msg {m : Msg} (hok : m.ok = true) {k : Nat} (hk : k < m.bytes.length) : bparse (m.bytes.take k) = (mzero, 90) := by
  have hl := Msg.bytes_len (m := m)
  have hlen : (m.bytes.take k).length = k := by
    rw [List.length_take]
    omega
  unfold bparse
  rw [hlen]
  by_cases c1 : k < 7
  · rw [if_pos c1]
  rw [if_neg c1]
  rcases Msg.ok_right hok with ⟨hk1, _⟩ | ⟨hk1, _, _⟩
  · rw [if_pos hk1] at hl
    omega
  · rw [if_neg hk1] at hl
    by_cases h2 : m.kind = 2
    · rw [if_pos h2] at hl
      have e : m.bytes = bhead ++ ([2, 2] ++ ([m.flags] ++ (m.nums ++ [0]))) := by
        unfold Msg.bytes
        rw [if_neg hk1, if_pos h2]
      have t5 : (m.bytes.take k).take 5 = bhead := by
        rw [List.take_take, Nat.min_eq_left (by omega), e]
        rfl
      have t2 : ((m.bytes.take k).drop 5).take 2 = [2, 2] := by
        rw [List.drop_take, List.take_take, Nat.min_eq_left (by omega), e]
        rfl
      rw [if_neg (by simp [t5]), t2, if_neg (by decide), if_neg (by decide), if_pos rfl, if_pos (by omega)]
    · rw [if_neg h2] at hl
      have e : m.bytes = bhead ++ ([0, 0] ++ ([m.flags] ++ m.nums)) := by
        unfold Msg.bytes
        rw [if_neg hk1, if_neg h2]
      have t5 : (m.bytes.take k).take 5 = bhead := by
        rw [List.take_take, Nat.min_eq_left (by omega), e]
        rfl
      have t2 : ((m.bytes.take k).drop 5).take 2 = [0, 0] := by
        rw [List.drop_take, List.take_take, Nat.min_eq_left (by omega), e]
        rfl
      rw [if_neg (by simp [t5]), t2, if_neg (by decide), if_pos rfl, if_pos (by omega)]
end Go.Proofs.YtbfjlhjfpmgplaaDoor.P
namespace Go.Proofs.YtbfjlhjfpmgplaaDoor.P
set_option linter.unusedSimpArgs false
set_option linter.unusedVariables false
open Go Go.RowKit Go.Proofs.YtbfjlhjfpmgplaaDoorW.PrintWords Go.Proofs.YtbfjlhjfpmgplaaDoorW.PrintLast Go.Proofs.YtbfjlhjfpmgplaaDoorW.PrintMore Go.Proofs.YtbfjlhjfpmgplaaDoor.L

theorem below_eq (a b : Int) : bpdu_below.f a b = some (decide (0 ≤ a ∧ a < b)) := by
  unfold bpdu_below.f
  by_cases h : 0 ≤ a
  · rw [if_pos h]
    congr 1
    rw [Bool.eq_iff_iff, decide_eq_true_eq, decide_eq_true_eq]
    omega
  · rw [if_neg (by omega), decide_eq_false (by omega)]
theorem is_change (m : Msg) : ((m.kind == 128 && (!m.ch && (!m.pr && (!m.le && (!m.fo && (!m.ag && (!m.ac && (m.role == 0 && ((m.root : Int) == 0 && (m.cost == 0 && ((m.bridge : Int) == 0 && (m.port == 0 && (m.age == 0 && (m.mage == 0 && (m.hello == 0 && (m.delay == 0)))))))))))))))) = true) ↔ m = mchange := by
  cases m
  simp [mchange]
theorem check_j1 (m : Msg) {x : Bool} (hx : x = m.right) : Ev (fun k => bpdu_Check.j1 k x m.kind m.ch m.pr m.le m.fo m.ag m.ac m.role (m.root : Int) m.cost (m.bridge : Int) m.port m.age m.mage m.hello m.delay) (if m.ok = true then 0 else 91) := by
  refine ev_succ ?_
  simp only [bpdu_Check.j1]
  refine ev_known ?_
  unfold Msg.ok Msg.slow
  rw [← hx]
  clear hx
  by_cases h1 : m.kind = 128
  · rw [if_pos h1, if_pos h1]
    by_cases h2 : m = mchange
    · rw [if_pos ((is_change m).2 h2), if_pos (decide_eq_true h2)]
    · rw [if_neg (fun h => h2 ((is_change m).1 h)), if_neg (by simp [h2])]
  · rw [if_neg h1, if_neg h1]
    by_cases h2 : m.kind = 0
    · rw [if_pos h2, if_pos h2]
      by_cases h3 : m.role = 0
      · rw [if_pos h3, decide_eq_true h3]
        cases x <;> cases m.pr <;> cases m.le <;> cases m.fo <;> cases m.ag <;> rfl
      · rw [if_neg h3, decide_eq_false h3]
        cases x <;> cases m.pr <;> cases m.le <;> cases m.fo <;> cases m.ag <;> rfl
    · rw [if_neg h2, if_neg h2]
      by_cases h3 : m.kind = 2
      · rw [if_pos h3, if_pos h3]
        cases x <;> rfl
      · rw [if_neg h3, if_neg h3]
        rfl
def Msg.timed (m : Msg) : Prop := (0 ≤ m.age ∧ m.age < 65536) ∧ (0 ≤ m.mage ∧ m.mage < 65536) ∧ (0 ≤ m.hello ∧ m.hello < 65536) ∧ (0 ≤ m.delay ∧ m.delay < 65536)
theorem not_right {m : Msg} {c : Prop} (h : ¬ c) (k : m.right = true → c) : false = m.right := by
  cases hr : m.right
  · rfl
  · exact absurd (k hr) h
theorem check_j0 (m : Msg) {x : Bool} (hx : x = true ↔ m.timed) : Ev (fun k => bpdu_Check.j0 k x m.kind m.ch m.pr m.le m.fo m.ag m.ac m.role (m.root : Int) m.cost (m.bridge : Int) m.port m.age m.mage m.hello m.delay) (if m.ok = true then 0 else 91) := by
  refine ev_succ ?_
  simp only [bpdu_Check.j0, below_eq]
  have rt : m.right = true → m.timed := fun h => by
    have := Msg.right_iff.1 h
    unfold Msg.timed
    omega
  by_cases hx1 : x = true
  · refine ev_pos hx1 (ev_some ?_)
    by_cases h1 : 0 ≤ m.role ∧ m.role < 4
    · refine ev_pos (decide_eq_true h1) (ev_some ?_)
      by_cases h2 : 0 ≤ m.cost ∧ m.cost < 4294967296
      · refine ev_pos (decide_eq_true h2) (ev_some (check_j1 m ?_))
        have ht := hx.1 hx1
        unfold Msg.timed at ht
        rw [Bool.eq_iff_iff, decide_eq_true_eq, Msg.right_iff]
        omega
      · exact ev_neg (by rw [decide_eq_false h2]; decide) (check_j1 m (not_right h2 (fun h => by
          have := Msg.right_iff.1 h
          omega)))
    · exact ev_neg (by rw [decide_eq_false h1]; decide) (check_j1 m (not_right h1 (fun h => by
          have := Msg.right_iff.1 h
          omega)))
  · exact ev_neg hx1 (check_j1 m (not_right (fun h => hx1 (hx.2 h)) rt))
theorem check_ev (m : Msg) : Ev (fun k => bpdu_Check.f k m.kind m.ch m.pr m.le m.fo m.ag m.ac m.role (m.root : Int) m.cost (m.bridge : Int) m.port m.age m.mage m.hello m.delay) (if m.ok = true then 0 else 91) := by
  unfold bpdu_Check.f
  simp only [below_eq]
  refine ev_some ?_
  have no : ∀ {c : Prop}, ¬ c → (m.timed → c) → (false = true ↔ m.timed) := fun h k => ⟨fun h => (by cases h), fun t => absurd (k t) h⟩
  by_cases h1 : 0 ≤ m.age ∧ m.age < 65536
  · refine ev_pos (decide_eq_true h1) (ev_some ?_)
    by_cases h2 : 0 ≤ m.mage ∧ m.mage < 65536
    · refine ev_pos (decide_eq_true h2) (ev_some ?_)
      by_cases h3 : 0 ≤ m.hello ∧ m.hello < 65536
      · refine ev_pos (decide_eq_true h3) (ev_some (check_j0 m ?_))
        rw [decide_eq_true_eq]
        exact ⟨fun h => ⟨h1, h2, h3, h⟩, fun t => t.2.2.2⟩
      · exact ev_neg (by rw [decide_eq_false h3]; decide) (check_j0 m (no h3 (fun t => t.2.2.1)))
    · exact ev_neg (by rw [decide_eq_false h2]; decide) (check_j0 m (no h2 (fun t => t.2.1)))
  · exact ev_neg (by rw [decide_eq_false h1]; decide) (check_j0 m (no h1 (fun t => t.1)))

theorem flags_all : ∀ (r : Fin 4) (a b c d e f : Bool), bpdu_set f (bpdu_set e (bpdu_set d (bpdu_set c (bpdu_set b (bpdu_set a ((wrap64 (((r.val : Nat) : Int) * 4)) % 256) 1) 2) 16) 32) 64) 128 = ((bitN a 1 + bitN b 2 + 4 * r.val + bitN c 16 + bitN d 32 + bitN e 64 + bitN f 128 : Nat) : Int) := by decide +kernel
theorem flags_eq {m : Msg} (hr : m.right = true) : bpdu_flags.f m.kind m.ch m.pr m.le m.fo m.ag m.ac m.role (m.root : Int) m.cost (m.bridge : Int) m.port m.age m.mage m.hello m.delay = some ((m.flags : Nat) : Int) := by
  obtain ⟨r0, r3⟩ := (Msg.right_iff.1 hr).1
  have h := flags_all ⟨m.role.toNat, by omega⟩ m.ch m.pr m.le m.fo m.ag m.ac
  unfold bpdu_flags.f Msg.flags
  rw [← h]
  dsimp only
  rw [Int.toNat_of_nonneg r0]
theorem bput_ev {v n : Nat} (h1 : 1 ≤ n) (h8 : n ≤ 8) (hv : v < 256 ^ n) : Ev (fun k => bpdu_put.f k (v : Int) (n : Int)) (bs (be n v)) := by
  unfold bpdu_put.f
  exact Ev.bind (put_ev h1 h8 hv) (ev_now rfl)
theorem e256 : (256 : Nat) ^ 2 = 65536 ∧ (256 : Nat) ^ 4 = 4294967296 ∧ (256 : Nat) ^ 8 = 18446744073709551616 := by decide
theorem bput8 {v : Nat} (hv : v < 18446744073709551616) : Ev (fun k => bpdu_put.f k (v : Int) 8) (bs (be 8 v)) := bput_ev (n := 8) (by decide) (by decide) (by rw [e256.2.2]; exact hv)
theorem bput4 {x : Int} (h0 : 0 ≤ x) (h1 : x ≤ 4294967295) : Ev (fun k => bpdu_put.f k (IntKind.u64.wrap x) 4) (bs (be 4 x.toNat)) := by
  have h := bput_ev (v := x.toNat) (n := 4) (by decide) (by decide) (by rw [e256.2.1]; omega)
  rw [u64w h0 (by omega)]
  rw [Int.toNat_of_nonneg h0] at h
  exact h
theorem bput2 {x : Int} (h0 : 0 ≤ x) (h1 : x ≤ 65535) : Ev (fun k => bpdu_put.f k (IntKind.u64.wrap x) 2) (bs (be 2 x.toNat)) := by
  have h := bput_ev (v := x.toNat) (n := 2) (by decide) (by decide) (by rw [e256.1]; omega)
  rw [u64w h0 (by omega)]
  rw [Int.toNat_of_nonneg h0] at h
  exact h
theorem bl0_step {x6 x7 : ByteArray} {l : List Int} {i j : Int} {x : Int} {r : ByteArray × Int} (h0 : 0 ≤ i) (hi : i < (l.length : Int)) (hj : wrap64 (i + 1) = j) (hx : rd l i = x) (hx0 : 0 ≤ x) (hx1 : x ≤ 65535) (hs : x7.size ≤ 1000000)
    (h : Ev (fun k => bpdu_Build.l0 k x6 (x7 ++ bs (be 2 x.toNat)) l (l.length : Int) j) r) : Ev (fun k => bpdu_Build.l0 k x6 x7 l (l.length : Int) i) r := by
  refine ev_succ ?_
  simp only [bpdu_Build.l0]
  rw [hx, hj]
  exact ev_pos hi (ev_pos h0 (ev_pos hi (Ev.bind (bput2 hx0 hx1) (ev_pos (by rw [bs_size, be_len]; omega) h))))
theorem bl0_end {x6 x7 : ByteArray} {l : List Int} (h1 : x6.size ≤ 1000000) (h2 : x7.size ≤ 1000000) : Ev (fun k => bpdu_Build.l0 k x6 x7 l (l.length : Int) (l.length : Int)) (x7 ++ x6, 0) := by
  refine ev_succ ?_
  simp only [bpdu_Build.l0]
  exact ev_neg (by omega) (ev_pos (by omega) (ev_now rfl))
theorem nums_one {n : Nat} (h : n < 256) : strOfNums [(n : Int)] = bs [n] := nums_bs [(n : Int)] (fun x hx => by
  rw [List.mem_singleton] at hx
  omega)
theorem head_bs : (⟨#[66, 66, 3, 0, 0]⟩ : ByteArray) = bs bhead := rfl
theorem build_j0 {m : Msg} (hr : m.right = true) (h1 : m.root < 18446744073709551616) (h2 : m.bridge < 18446744073709551616) {K E : List Nat} (hK : K.length ≤ 10) (hE : E.length ≤ 10) :
    Ev (fun k => bpdu_Build.j0 k (bs K) (bs E) m.kind m.ch m.pr m.le m.fo m.ag m.ac m.role (m.root : Int) m.cost (m.bridge : Int) m.port m.age m.mage m.hello m.delay) (bs (bhead ++ (K ++ ([m.flags] ++ (m.nums ++ E)))), 0) := by
  obtain ⟨⟨r0, r1⟩, ⟨c0, c1⟩, ⟨p0, p1⟩, ⟨a0, a1⟩, ⟨m0, m1⟩, ⟨e0, e1⟩, ⟨d0, d1⟩⟩ := Msg.right_iff.1 hr
  have hK' : (bs K).size ≤ 10 := size_bs_le hK
  have hE' : (bs E).size ≤ 10 := size_bs_le hE
  have hh : (bs bhead).size = 5 := bs_size _
  refine ev_succ ?_
  simp only [bpdu_Build.j0, flags_eq hr, head_bs]
  refine ev_pos (by omega) (ev_some (ev_some ?_))
  rw [nums_one (Msg.flags_lt hr)]
  have hf : (bs [m.flags]).size = 1 := bs_size _
  refine ev_pos (by rw [ByteArray.size_append]; omega) (Ev.bind (bput8 h1) (ev_pos (by simp only [ByteArray.size_append, bs_size, be_len]; simp only [bs_size] at hK' hE' hh hf; omega) (Ev.bind (bput4 c0 c1) (ev_pos (by simp only [ByteArray.size_append, bs_size, be_len]; simp only [bs_size] at hK' hE' hh hf; omega) (Ev.bind (bput8 h2) (ev_pos (by simp only [ByteArray.size_append, bs_size, be_len]; simp only [bs_size] at hK' hE' hh hf; omega) (Ev.bind (bput2 p0 p1) (ev_pos (by simp only [ByteArray.size_append, bs_size, be_len]; simp only [bs_size] at hK' hE' hh hf; omega) (ev_some ?_)))))))))
  have e : bs (bhead ++ (K ++ ([m.flags] ++ (m.nums ++ E)))) = bs bhead ++ bs K ++ bs [m.flags] ++ bs (be 8 m.root) ++ bs (be 4 m.cost.toNat) ++ bs (be 8 m.bridge) ++ bs (be 2 m.port.toNat) ++ bs (be 2 m.age.toNat) ++ bs (be 2 m.mage.toNat) ++ bs (be 2 m.hello.toNat) ++ bs (be 2 m.delay.toNat) ++ bs E := by
    unfold Msg.nums
    simp only [← bs_append, List.append_assoc]
  rw [e]
  have z : (bs bhead ++ bs K ++ bs [m.flags] ++ bs (be 8 m.root) ++ bs (be 4 m.cost.toNat) ++ bs (be 8 m.bridge) ++ bs (be 2 m.port.toNat)).size ≤ 100 := by
    simp only [ByteArray.size_append, bs_size, be_len]
    simp only [bs_size] at hK' hE' hh hf
    omega
  have s2 : ∀ x : Nat, (bs (be 2 x)).size = 2 := fun x => by rw [bs_size, be_len]
  generalize bs bhead ++ bs K ++ bs [m.flags] ++ bs (be 8 m.root) ++ bs (be 4 m.cost.toNat) ++ bs (be 8 m.bridge) ++ bs (be 2 m.port.toNat) = t at *
  refine bl0_step (j := 1) (x := m.age) (by decide) (by simp only [List.length_cons, List.length_nil]; omega) (by unfold wrap64; omega) rfl a0 a1 (by omega) ?_
  refine bl0_step (j := 2) (x := m.mage) (by decide) (by simp only [List.length_cons, List.length_nil]; omega) (by unfold wrap64; omega) rfl m0 m1 (by simp only [ByteArray.size_append, s2]; omega) ?_
  refine bl0_step (j := 3) (x := m.hello) (by decide) (by simp only [List.length_cons, List.length_nil]; omega) (by unfold wrap64; omega) rfl e0 e1 (by simp only [ByteArray.size_append, s2]; omega) ?_
  refine bl0_step (j := 4) (x := m.delay) (by decide) (by simp only [List.length_cons, List.length_nil]; omega) (by unfold wrap64; omega) rfl d0 d1 (by simp only [ByteArray.size_append, s2]; omega) ?_
  exact bl0_end (by omega) (by simp only [ByteArray.size_append, s2]; omega)
/-- A message's bytes, or that it may not be. -/
def bbuild (m : Msg) : ByteArray × Int := if m.ok = true then (bs m.bytes, 0) else ((⟨#[]⟩ : ByteArray), 91)
theorem build_ev {m : Msg} (h1 : m.root < 18446744073709551616) (h2 : m.bridge < 18446744073709551616) : Ev (fun k => bpdu_Build.f k m.kind m.ch m.pr m.le m.fo m.ag m.ac m.role (m.root : Int) m.cost (m.bridge : Int) m.port m.age m.mage m.hello m.delay) (bbuild m) := by
  unfold bpdu_Build.f
  refine Ev.bind (check_ev m) ?_
  unfold bbuild
  by_cases hok : m.ok = true
  · rw [if_pos hok, if_pos hok]
    refine ev_pos rfl ?_
    unfold Msg.bytes
    rcases Msg.ok_right hok with ⟨hk, _⟩ | ⟨hk, hr, _⟩
    · rw [if_pos hk]
      exact ev_pos hk (ev_now rfl)
    · rw [if_neg hk]
      refine ev_neg hk ?_
      by_cases h0 : m.kind = 2
      · rw [if_pos h0]
        exact ev_pos h0 (build_j0 hr h1 h2 (K := [2, 2]) (E := [0]) (by decide) (by decide))
      · rw [if_neg h0]
        refine ev_neg h0 ?_
        have h := build_j0 hr h1 h2 (K := [0, 0]) (E := []) (by decide) (by decide)
        rw [List.append_nil] at h
        exact h
  · rw [if_neg hok, if_neg hok]
    exact ev_neg (by decide) (ev_now rfl)

theorem u8_one : ∀ b : Nat, b < 256 → ((Go.bits .and .u8 (b : Int) 1) != 0) = decide (b % 2 = 1) := by decide +kernel
theorem u8_two : ∀ b : Nat, b < 256 → ((Go.bits .and .u8 (b : Int) 2) != 0) = decide (b / 2 % 2 = 1) := by decide +kernel
theorem u8_16 : ∀ b : Nat, b < 256 → ((Go.bits .and .u8 (b : Int) 16) != 0) = decide (b / 16 % 2 = 1) := by decide +kernel
theorem u8_32 : ∀ b : Nat, b < 256 → ((Go.bits .and .u8 (b : Int) 32) != 0) = decide (b / 32 % 2 = 1) := by decide +kernel
theorem u8_64 : ∀ b : Nat, b < 256 → ((Go.bits .and .u8 (b : Int) 64) != 0) = decide (b / 64 % 2 = 1) := by decide +kernel
theorem u8_128 : ∀ b : Nat, b < 256 → ((Go.bits .and .u8 (b : Int) 128) != 0) = decide (b / 128 % 2 = 1) := by decide +kernel
/-- A message as the printed functions tell it. -/
def mrow (m : Msg) : Int × Bool × Bool × Bool × Bool × Bool × Bool × Int × Int × Int × Int × Int × Int × Int × Int × Int := (m.kind, m.ch, m.pr, m.le, m.fo, m.ag, m.ac, m.role, (m.root : Int), m.cost, (m.bridge : Int), m.port, m.age, m.mage, m.hello, m.delay)
def mtup {α : Type} (m : Msg) (e : α) : Int × Bool × Bool × Bool × Bool × Bool × Bool × Int × Int × Int × Int × Int × Int × Int × Int × Int × α := (m.kind, m.ch, m.pr, m.le, m.fo, m.ag, m.ac, m.role, (m.root : Int), m.cost, (m.bridge : Int), m.port, m.age, m.mage, m.hello, m.delay, e)
theorem told_ev {s : ByteArray} (h38 : 38 ≤ s.size) (hs : s.size ≤ 1000000) : Ev (fun k => bpdu_told.f k s) (mrow (told (nb s))) := by
  have l2 := fun i => numAt_lt (nb_byt s) i 2
  have l4 := numAt_lt (nb_byt s) 16 4
  rw [e256.2.1] at l4
  rw [e256.1] at l2
  have hb := getD_byte (nb_byt s) 7
  have w2 : ∀ i, wrap64 ((numAt (nb s) i 2 : Nat) : Int) = ((numAt (nb s) i 2 : Nat) : Int) := fun i => w64 (by omega) (by have := l2 i; omega)
  have w4 : wrap64 ((numAt (nb s) 16 4 : Nat) : Int) = ((numAt (nb s) 16 4 : Nat) : Int) := w64 (by omega) (by omega)
  unfold bpdu_told.f
  refine ev_pos (by omega) ?_
  refine Ev.bind (get_ev (i := 8) (n := 8) (by decide) (by decide) (by omega) (by omega)) ?_
  refine Ev.bind (get_ev (i := 16) (n := 4) (by decide) (by decide) (by omega) (by omega)) ?_
  refine Ev.bind (get_ev (i := 20) (n := 8) (by decide) (by decide) (by omega) (by omega)) ?_
  refine Ev.bind (get_ev (i := 28) (n := 2) (by decide) (by decide) (by omega) (by omega)) ?_
  refine Ev.bind (get_ev (i := 30) (n := 2) (by decide) (by decide) (by omega) (by omega)) ?_
  refine Ev.bind (get_ev (i := 32) (n := 2) (by decide) (by decide) (by omega) (by omega)) ?_
  refine Ev.bind (get_ev (i := 34) (n := 2) (by decide) (by decide) (by omega) (by omega)) ?_
  refine Ev.bind (get_ev (i := 36) (n := 2) (by decide) (by decide) (by omega) (by omega)) ?_
  refine ev_now ?_
  have e7 : bt s 7 = (((nb s).getD 7 0 : Nat) : Int) := bt_nb s 7
  rw [e7, u8_one _ hb, u8_128 _ hb, w4, w2, w2, w2, w2, w2]
  rfl
theorem quick_eq (m : Msg) {f : Nat} (hf : f < 256) : bpdu_quick.f m.kind m.ch m.pr m.le m.fo m.ag m.ac m.role (m.root : Int) m.cost (m.bridge : Int) m.port m.age m.mage m.hello m.delay (f : Int) = some (mrow (quick m f)) := by
  unfold bpdu_quick.f
  rw [u8_two _ hf, u8_16 _ hf, u8_32 _ hf, u8_64 _ hf]
  have e : Int.tdiv (f : Int) 4 % 4 = ((f / 4 % 4 : Nat) : Int) := by
    rw [Int.tdiv_eq_ediv_of_nonneg (by omega)]
    omega
  rw [e]
  rfl
theorem toList_nb (s : ByteArray) : s.toList.map UInt8.toNat = nb s := by
  rw [ByteArray.toList_eq]
  rfl
theorem list_nb (s : ByteArray) (l : List UInt8) : s.toList = l ↔ nb s = l.map UInt8.toNat := by
  rw [← toList_nb]
  constructor
  · intro h
    rw [h]
  · intro h
    have : Function.Injective UInt8.toNat := fun a b h => UInt8.toNat_inj.1 h
    exact List.map_inj_right (fun a b h => UInt8.toNat_inj.1 h) |>.1 h
theorem cut_list (s : ByteArray) (l : List UInt8) : (s.extract 5 7).toList = l ↔ ((nb s).drop 5).take 2 = l.map UInt8.toNat := by
  rw [list_nb, nb_extract, List.drop_take]
theorem head_eq {s : ByteArray} (h : 7 ≤ s.size) : strings_HasPrefix.f s (⟨#[66, 66, 3, 0, 0]⟩ : ByteArray) = some (decide ((nb s).take 5 = bhead)) := by
  unfold strings_HasPrefix.f stringslite_HasPrefix.f
  have z : (⟨#[66, 66, 3, 0, 0]⟩ : ByteArray).size = 5 := rfl
  rw [z, if_pos (by omega), if_pos (by omega), if_pos (by omega)]
  show some _ = _
  congr 1
  have e : (⟨#[66, 66, 3, 0, 0]⟩ : ByteArray).toList = ([66, 66, 3, 0, 0] : List UInt8) := by decide +kernel
  rw [e, Bool.eq_iff_iff, beq_iff_eq, decide_eq_true_eq]
  refine (list_nb _ _).trans ?_
  rw [nb_extract]
  exact Iff.rfl
theorem parse_j1 {s : ByteArray} (hs : s.size ≤ 1000000) {c : Bool} (h : c = true ↔ s.size < 38 ∨ ((nb s).drop 5).take 2 = [2, 2] ∧ s.size = 38) (h0 : ((nb s).drop 5).take 2 = [0, 0] ∨ ((nb s).drop 5).take 2 = [2, 2]) (h7 : 7 ≤ s.size) (hh : (nb s).take 5 = bhead) :
    Ev (fun k => bpdu_Parse.j1 k s (s.extract 5 7) c) (mtup (bparse (nb s)).1 (bparse (nb s)).2) := by
  have hl := nb_len s
  refine ev_succ ?_
  simp only [bpdu_Parse.j1, cut_list]
  unfold bparse
  rw [hl, if_neg (by omega), if_neg (by rw [hh]; exact fun h => h rfl)]
  by_cases hc : c = true
  · refine ev_pos hc ?_
    rcases h0 with h0 | h0
    · rw [h0, if_neg (by decide), if_pos rfl, if_pos (by
        rcases h.1 hc with h | h
        · exact h
        · rw [h0] at h
          exact absurd h.1 (by decide))]
      exact ev_now rfl
    · rw [h0, if_neg (by decide), if_neg (by decide), if_pos rfl, if_pos (by
        rcases h.1 hc with h | h <;> omega)]
      exact ev_now rfl
  · refine ev_neg hc ?_
    have h1 : ¬ s.size < 38 := fun k => hc (h.2 (Or.inl k))
    rcases h0 with h0 | h0
    · rw [h0, if_neg (by decide), if_pos rfl, if_neg h1]
      exact ev_neg (by decide) (Ev.bind (told_ev (by omega) hs) (ev_now rfl))
    · have h2 : ¬ s.size = 38 := fun k => hc (h.2 (Or.inr ⟨h0, k⟩))
      rw [h0, if_neg (by decide), if_neg (by decide), if_pos rfl, if_neg (by omega)]
      refine ev_pos rfl (Ev.bind (told_ev (by omega) hs) (ev_pos (by omega) ?_))
      have e7 : bt s 7 = (((nb s).getD 7 0 : Nat) : Int) := bt_nb s 7
      have q := quick_eq (told (nb s)) (getD_byte (nb_byt s) 7)
      rw [e7]
      unfold mrow at q ⊢
      dsimp only at q ⊢
      rw [q]
      exact ev_some (ev_now rfl)
theorem parse_ev {s : ByteArray} (hs : s.size ≤ 1000000) : Ev (fun k => bpdu_Parse.f k s) (mtup (bparse (nb s)).1 (bparse (nb s)).2) := by
  have hl := nb_len s
  unfold bpdu_Parse.f
  by_cases h7 : s.size < 7
  · refine ev_pos (by omega) ?_
    unfold bparse
    rw [hl, if_pos h7]
    exact ev_now rfl
  refine ev_neg (by omega) ?_
  rw [head_eq (by omega)]
  refine ev_some ?_
  by_cases hh : (nb s).take 5 = bhead
  rotate_left
  · refine ev_neg (by rw [decide_eq_false hh]; decide) ?_
    unfold bparse
    rw [hl, if_neg h7, if_pos hh]
    exact ev_now rfl
  refine ev_pos (decide_eq_true hh) (ev_pos (by decide) (ev_pos (by omega) ?_))
  simp only [cut_list]
  by_cases c1 : ((nb s).drop 5).take 2 = [0, 128]
  · refine ev_pos c1 ?_
    unfold bparse
    rw [hl, if_neg h7, if_neg (by rw [hh]; exact fun h => h rfl), if_pos c1]
    exact ev_now rfl
  refine ev_neg c1 ?_
  have go : ((nb s).drop 5).take 2 = [0, 0] ∨ ((nb s).drop 5).take 2 = [2, 2] → Ev (fun k => bpdu_Parse.j0 k s (s.extract 5 7) false) (mtup (bparse (nb s)).1 (bparse (nb s)).2) := by
    intro h0
    refine ev_succ ?_
    simp only [bpdu_Parse.j0, cut_list]
    refine ev_neg (by decide) ?_
    by_cases h38 : s.size < 38
    · exact ev_pos (by omega) (parse_j1 hs ⟨fun _ => Or.inl h38, fun _ => rfl⟩ h0 (by omega) hh)
    refine ev_neg (by omega) ?_
    by_cases h2 : ((nb s).drop 5).take 2 = [2, 2]
    · refine ev_pos h2 (parse_j1 hs ?_ h0 (by omega) hh)
      rw [beq_iff_eq]
      exact ⟨fun h => Or.inr ⟨h2, by omega⟩, fun h => by rcases h with h | h <;> omega⟩
    · exact ev_neg h2 (parse_j1 hs ⟨fun h => (by cases h), fun h => by
        rcases h with h | h
        · exact absurd h h38
        · exact absurd h.1 h2⟩ h0 (by omega) hh)
  by_cases c2 : ((nb s).drop 5).take 2 = [0, 0]
  · exact ev_pos c2 (go (Or.inl c2))
  refine ev_neg c2 ?_
  by_cases c3 : ((nb s).drop 5).take 2 = [2, 2]
  · have e : ((s.extract 5 7).toList != ([2, 2] : List UInt8)) = false := by
      rw [bne_eq_false_iff_eq, cut_list]
      exact c3
    rw [e]
    exact go (Or.inr c3)
  · have e : ((s.extract 5 7).toList != ([2, 2] : List UInt8)) = true := by
      rw [bne_iff_ne]
      exact fun h => c3 ((cut_list _ _).1 h)
    rw [e]
    unfold bparse
    rw [hl, if_neg h7, if_neg (by rw [hh]; exact fun h => h rfl), if_neg c1, if_neg c2, if_neg c3]
    refine ev_succ ?_
    simp only [bpdu_Parse.j0]
    first | exact ev_pos rfl (ev_now rfl) | exact ev_pos trivial (ev_now rfl) | exact ev_now rfl
end Go.Proofs.YtbfjlhjfpmgplaaDoor.P
namespace Go.Proofs.YtbfjlhjfpmgplaaDoor.P
set_option linter.unusedSimpArgs false
set_option linter.unusedVariables false
open Go Go.RowKit Go.Proofs.YtbfjlhjfpmgplaaDoorW.PrintWords Go.Proofs.YtbfjlhjfpmgplaaDoorW.PrintLast Go.Proofs.YtbfjlhjfpmgplaaDoorW.PrintMore Go.Proofs.YtbfjlhjfpmgplaaDoor.L

theorem band40 (m : Nat) (h : m < 18446744073709551616) : Go.bits .and .u64 (m : Int) 1099511627776 = ((m / 1099511627776 % 2 * 1099511627776 : Nat) : Int) := by
  have e0 : Go.bits .and .u64 (m : Int) 1099511627776 = IntKind.u64.wrap ((BitVec.ofInt 64 (m : Int) &&& BitVec.ofInt 64 1099511627776).toNat : Int) := rfl
  rw [e0, BitVec.toNat_and]
  have e1 : (BitVec.ofInt 64 (m : Int)).toNat = m := by
    rw [BitVec.ofInt_natCast, BitVec.toNat_ofNat]
    exact Nat.mod_eq_of_lt (by omega)
  have e2 : (BitVec.ofInt 64 (1099511627776 : Int)).toNat = 2 ^ 40 := by decide
  have e3 : (2 : Nat) ^ 40 = 1099511627776 := by decide
  have e4 : m &&& 2 ^ 40 = m / 1099511627776 % 2 * 1099511627776 := by
    apply Nat.eq_of_testBit_eq
    intro i
    rw [Nat.testBit_and, Nat.testBit_two_pow]
    by_cases hi : 40 = i
    · subst hi
      rw [decide_eq_true rfl, Bool.and_true, Nat.testBit_eq_decide_div_mod_eq, Nat.testBit_eq_decide_div_mod_eq, e3]
      rw [Nat.mul_div_cancel _ (by decide), Nat.mod_mod]
    · rw [decide_eq_false hi, Bool.and_false]
      have h2 : m / 1099511627776 % 2 = 0 ∨ m / 1099511627776 % 2 = 1 := by omega
      rcases h2 with h2 | h2
      · rw [h2, Nat.zero_mul, Nat.zero_testBit]
      · rw [h2, Nat.one_mul, ← e3, Nat.testBit_two_pow, decide_eq_false hi]
  rw [e1, e2, e4]
  exact u64w (by omega) (by omega)
/-- Is a MAC address many's? -/
def grpN (m : Nat) : Bool := decide (m / 1099511627776 % 2 = 1)
/-- May a host have it? -/
def ownN (m : Nat) : Bool := decide (0 < m) && decide (m < 281474976710656) && !grpN m
theorem group_eq {m : Nat} (h : m < 18446744073709551616) : addrs_Group.f (m : Int) = some (grpN m) := by
  unfold addrs_Group.f grpN
  rw [band40 m h]
  congr 1
  rw [Bool.eq_iff_iff, bne_iff_ne, decide_eq_true_eq]
  omega
theorem own_eq {m : Nat} (h : m < 18446744073709551616) : addrs_Own.f (m : Int) = some (ownN m) := by
  unfold addrs_Own.f ownN
  by_cases h0 : m = 0
  · subst h0
    rfl
  · rw [if_neg (by omega), decide_eq_true (show 0 < m by omega)]
    by_cases h1 : m < 281474976710656
    · rw [if_pos (by omega), group_eq h, decide_eq_true h1]
      rfl
    · rw [if_neg (by omega), decide_eq_false h1]
      rfl
/-- The frame that a message goes in. -/
def bframe (src : Nat) (m : Msg) : Int × Int × Bool × Int × Bool × Int × Int × ByteArray × Int :=
  if m.ok = true ∧ ownN src = true then (1652522221568, (src : Int), false, 0, false, 0, 0, bs m.bytes, 0) else (0, 0, false, 0, false, 0, 0, (⟨#[]⟩ : ByteArray), 91)
theorem frame_ev {src : Nat} {m : Msg} (h0 : src < 18446744073709551616) (h1 : m.root < 18446744073709551616) (h2 : m.bridge < 18446744073709551616) :
    Ev (fun k => bpdu_Frame.f k (src : Int) m.kind m.ch m.pr m.le m.fo m.ag m.ac m.role (m.root : Int) m.cost (m.bridge : Int) m.port m.age m.mage m.hello m.delay) (bframe src m) := by
  unfold bpdu_Frame.f
  refine Ev.bind (build_ev h1 h2) ?_
  unfold bbuild bframe
  by_cases hok : m.ok = true
  · rw [if_pos hok, own_eq h0]
    refine ev_pos rfl (ev_some ?_)
    by_cases ho : ownN src = true
    · rw [if_pos (show m.ok = true ∧ ownN src = true from ⟨hok, ho⟩)]
      exact ev_pos ho (ev_now rfl)
    · rw [if_neg (show ¬ (m.ok = true ∧ ownN src = true) from fun h => ho h.2)]
      exact ev_neg ho (ev_now rfl)
  · rw [if_neg hok, if_neg (show ¬ (m.ok = true ∧ ownN src = true) from fun h => hok h.1)]
    exact ev_neg (by decide) (ev_now rfl)
/-- The message in a frame. -/
def bof (dst : Int) (tag : Bool) (ty : Int) (s : ByteArray) : Msg × Bool :=
  if dst = 1652522221568 ∧ tag = false ∧ ty = 0 then ((bparse (nb s)).1, (bparse (nb s)).2 == 0) else (mzero, false)
theorem of_ev {s : ByteArray} (hs : s.size ≤ 1000000) (dst src : Int) (tag : Bool) (x : Int) (y : Bool) (z ty : Int) :
    Ev (fun k => bpdu_Of.f k dst src tag x y z ty s) (mtup (bof dst tag ty s).1 (bof dst tag ty s).2) := by
  unfold bpdu_Of.f bof
  by_cases h1 : dst = 1652522221568
  · refine ev_pos h1 ?_
    cases tag
    · refine ev_neg (by decide) ?_
      by_cases h2 : ty = 0
      · rw [if_pos ⟨h1, rfl, h2⟩]
        exact ev_pos h2 (Ev.bind (parse_ev hs) (ev_now rfl))
      · rw [if_neg (fun h => h2 h.2.2)]
        exact ev_neg h2 (ev_now rfl)
    · rw [if_neg (fun h => by cases h.2.1)]
      exact ev_pos rfl (ev_now rfl)
  · rw [if_neg (fun h => h1 h.1)]
    exact ev_neg h1 (ev_now rfl)
def mrapid : Msg := ⟨2, false, true, false, false, false, false, 3, 9223372036854775810, 5, 9223372036854775814, 32769, 0, 5120, 512, 3840⟩
theorem bpdu_fixed_ev : Ev (fun k => gangwaylaw09_fixed.f k) true := by
  unfold gangwaylaw09_fixed.f gangwaylaw09_rapid.f
  refine ev_some ?_
  dsimp only
  have b1 : Ev (fun k => bpdu_Build.f k 2 false true false false false false 3 9223372036854775810 5 9223372036854775814 32769 0 5120 512 3840) ((⟨#[66, 66, 3, 0, 0, 2, 2, 14, 128, 0, 0, 0, 0, 0, 0, 2, 0, 0, 0, 5, 128, 0, 0, 0, 0, 0, 0, 6, 128, 1, 0, 0, 20, 0, 2, 0, 15, 0, 0]⟩ : ByteArray), 0) := by
    have h := build_ev (m := mrapid) (by decide) (by decide)
    rw [show bbuild mrapid = ((⟨#[66, 66, 3, 0, 0, 2, 2, 14, 128, 0, 0, 0, 0, 0, 0, 2, 0, 0, 0, 5, 128, 0, 0, 0, 0, 0, 0, 6, 128, 1, 0, 0, 20, 0, 2, 0, 15, 0, 0]⟩ : ByteArray), 0) by decide +kernel] at h
    exact h
  have b2 : Ev (fun k => bpdu_Build.f k 128 false false false false false false 0 0 0 0 0 0 0 0 0) ((⟨#[66, 66, 3, 0, 0, 0, 128]⟩ : ByteArray), 0) := by
    have h := build_ev (m := mchange) (by decide) (by decide)
    rw [show bbuild mchange = ((⟨#[66, 66, 3, 0, 0, 0, 128]⟩ : ByteArray), 0) by decide +kernel] at h
    exact h
  have b3 : Ev (fun k => bpdu_Build.f k 0 false true false false false false 0 0 0 0 0 0 0 0 0) ((⟨#[]⟩ : ByteArray), 91) := by
    have h := build_ev (m := ⟨0, false, true, false, false, false, false, 0, 0, 0, 0, 0, 0, 0, 0, 0⟩) (by decide) (by decide)
    rw [show bbuild ⟨0, false, true, false, false, false, false, 0, 0, 0, 0, 0, 0, 0, 0, 0⟩ = ((⟨#[]⟩ : ByteArray), 91) by decide +kernel] at h
    exact h
  have p1 := parse_ev (s := (⟨#[66, 66, 3, 0, 0, 2, 2, 14, 128, 0, 0, 0, 0, 0, 0, 2, 0, 0, 0, 5, 128, 0, 0, 0, 0, 0, 0, 6, 128, 1, 0, 0, 20, 0, 2, 0, 15, 0, 0]⟩ : ByteArray) ++ (⟨#[109, 111, 114, 101]⟩ : ByteArray)) (by decide)
  rw [nb_append] at p1
  rw [show bparse (nb (⟨#[66, 66, 3, 0, 0, 2, 2, 14, 128, 0, 0, 0, 0, 0, 0, 2, 0, 0, 0, 5, 128, 0, 0, 0, 0, 0, 0, 6, 128, 1, 0, 0, 20, 0, 2, 0, 15, 0, 0]⟩ : ByteArray) ++ nb (⟨#[109, 111, 114, 101]⟩ : ByteArray)) = (mrapid, 0) by decide +kernel] at p1
  have p2 := parse_ev (s := (⟨#[66, 66, 3, 0, 0, 2, 2, 14, 128, 0, 0, 0, 0, 0, 0, 2, 0, 0, 0, 5, 128, 0, 0, 0, 0, 0, 0, 6, 128, 1, 0, 0, 20, 0, 2, 0, 15, 0, 0]⟩ : ByteArray).extract 0 38) (by decide)
  rw [nb_extract] at p2
  rw [show bparse (((nb (⟨#[66, 66, 3, 0, 0, 2, 2, 14, 128, 0, 0, 0, 0, 0, 0, 2, 0, 0, 0, 5, 128, 0, 0, 0, 0, 0, 0, 6, 128, 1, 0, 0, 20, 0, 2, 0, 15, 0, 0]⟩ : ByteArray)).take 38).drop 0) = (mzero, 90) by decide +kernel] at p2
  have p3 := parse_ev (s := (⟨#[66, 66, 3, 0, 1, 0, 128]⟩ : ByteArray)) (by decide)
  rw [show bparse (nb (⟨#[66, 66, 3, 0, 1, 0, 128]⟩ : ByteArray)) = (mzero, 91) by decide +kernel] at p3
  have f1 : Ev (fun k => bpdu_Frame.f k 2 2 false true false false false false 3 9223372036854775810 5 9223372036854775814 32769 0 5120 512 3840) (1652522221568, 2, false, 0, false, 0, 0, (⟨#[66, 66, 3, 0, 0, 2, 2, 14, 128, 0, 0, 0, 0, 0, 0, 2, 0, 0, 0, 5, 128, 0, 0, 0, 0, 0, 0, 6, 128, 1, 0, 0, 20, 0, 2, 0, 15, 0, 0]⟩ : ByteArray), 0) := by
    have h := frame_ev (src := 2) (m := mrapid) (by decide) (by decide) (by decide)
    rw [show bframe 2 mrapid = (1652522221568, 2, false, 0, false, 0, 0, (⟨#[66, 66, 3, 0, 0, 2, 2, 14, 128, 0, 0, 0, 0, 0, 0, 2, 0, 0, 0, 5, 128, 0, 0, 0, 0, 0, 0, 6, 128, 1, 0, 0, 20, 0, 2, 0, 15, 0, 0]⟩ : ByteArray), 0) by kernel_rfl] at h
    exact h
  have o1 := of_ev (s := (⟨#[66, 66, 3, 0, 0, 2, 2, 14, 128, 0, 0, 0, 0, 0, 0, 2, 0, 0, 0, 5, 128, 0, 0, 0, 0, 0, 0, 6, 128, 1, 0, 0, 20, 0, 2, 0, 15, 0, 0]⟩ : ByteArray)) (by decide) 1652522221568 2 false 0 false 0 0
  rw [show bof 1652522221568 false 0 (⟨#[66, 66, 3, 0, 0, 2, 2, 14, 128, 0, 0, 0, 0, 0, 0, 2, 0, 0, 0, 5, 128, 0, 0, 0, 0, 0, 0, 6, 128, 1, 0, 0, 20, 0, 2, 0, 15, 0, 0]⟩ : ByteArray) = (mrapid, true) by decide +kernel] at o1
  refine Ev.bind b1 (Ev.bind b2 (ev_pos (by decide) (Ev.bind p1 (ev_pos (by decide) (ev_pos (by decide) (Ev.bind p2 (Ev.bind p3 (Ev.bind b3 (ev_some (Ev.bind f1 (Ev.bind o1 ?_)))))))))))
  refine ev_pos (by decide) (ev_pos rfl (ev_pos (by decide +kernel) (ev_pos rfl (ev_some (ev_pos (by decide +kernel) (ev_pos rfl (ev_pos rfl (ev_pos rfl (ev_pos rfl (ev_pos rfl (ev_pos rfl (ev_some (ev_pos (by decide +kernel) (ev_now rfl))))))))))))))
end Go.Proofs.YtbfjlhjfpmgplaaDoor.P
namespace Go.Proofs.YtbfjlhjfpmgplaaDoor.P
set_option linter.unusedSimpArgs false
set_option linter.unusedVariables false
open Go Go.RowKit Go.Proofs.YtbfjlhjfpmgplaaDoorW.PrintWords Go.Proofs.YtbfjlhjfpmgplaaDoorW.PrintLast Go.Proofs.YtbfjlhjfpmgplaaDoorW.PrintMore Go.Proofs.YtbfjlhjfpmgplaaDoor.L

theorem word_eq (a : Int) : gangwayref09_word.f a = some (decide (0 ≤ a ∧ a ≤ 65535)) := by
  unfold gangwayref09_word.f
  by_cases h : 0 ≤ a
  · rw [if_pos h]
    congr 1
    rw [Bool.eq_iff_iff, decide_eq_true_eq, decide_eq_true_eq]
    omega
  · rw [if_neg (by omega), decide_eq_false (by omega)]
theorem rcheck_j1 {x : Bool} {m : Msg} (hx : x = m.ok) : Ev (fun k => gangwayref09_Check.j1 k x) (if m.ok = true then 0 else 91) := by
  refine ev_succ ?_
  simp only [gangwayref09_Check.j1]
  rw [hx]
  refine ev_known ?_
  split <;> rfl
theorem is_plain (m : Msg) : ((m.kind == m.kind && (m.ch == m.ch && (m.pr == false && (m.le == false && (m.fo == false && (m.ag == false && (m.ac == m.ac && (m.role == 0 && ((m.root : Int) == (m.root : Int) && (m.cost == m.cost && ((m.bridge : Int) == (m.bridge : Int) && (m.port == m.port && (m.age == m.age && (m.mage == m.mage && (m.hello == m.hello && (m.delay == m.delay)))))))))))))))) = true) ↔ m.slow = true := by
  cases m
  simp [Msg.slow, and_assoc]
theorem rcheck_j0 (m : Msg) {x : Bool} (hx : x = m.right) : Ev (fun k => gangwayref09_Check.j0 k x m.kind m.ch m.pr m.le m.fo m.ag m.ac m.role (m.root : Int) m.cost (m.bridge : Int) m.port m.age m.mage m.hello m.delay m.kind m.ch false false false false m.ac 0 (m.root : Int) m.cost (m.bridge : Int) m.port m.age m.mage m.hello m.delay) (if m.ok = true then 0 else 91) := by
  refine ev_succ ?_
  simp only [gangwayref09_Check.j0]
  have k1 : m.kind = 128 → m.ok = decide (m = mchange) := fun h => by
    unfold Msg.ok
    rw [if_pos h]
  have k2 : m.kind ≠ 128 → m.kind = 0 → m.ok = (m.right && m.slow) := fun h1 h2 => by
    unfold Msg.ok
    rw [if_neg h1, if_pos h2]
  have k3 : m.kind ≠ 128 → m.kind ≠ 0 → m.kind = 2 → m.ok = m.right := fun h1 h2 h3 => by
    unfold Msg.ok
    rw [if_neg h1, if_neg h2, if_pos h3]
  have k4 : m.kind ≠ 128 → m.kind ≠ 0 → m.kind ≠ 2 → m.ok = false := fun h1 h2 h3 => by
    unfold Msg.ok
    rw [if_neg h1, if_neg h2, if_neg h3]
  by_cases h1 : m.kind = 128
  · refine ev_pos h1 ?_
    by_cases h2 : m = mchange
    · exact ev_pos ((is_change m).2 h2) (rcheck_j1 (by rw [k1 h1, decide_eq_true h2]))
    · exact ev_neg (fun h => h2 ((is_change m).1 h)) (ev_neg (by omega) (ev_neg (by omega) (rcheck_j1 (by rw [k1 h1, decide_eq_false h2]))))
  · refine ev_neg h1 ?_
    by_cases h2 : m.kind = 0
    · refine ev_pos h2 ?_
      by_cases h3 : x = true
      · refine ev_pos h3 ?_
        by_cases h4 : m.slow = true
        · exact ev_pos ((is_plain m).2 h4) (rcheck_j1 (by rw [k2 h1 h2, ← hx, h3, h4]; rfl))
        · exact ev_neg (fun h => h4 ((is_plain m).1 h)) (ev_neg (by omega) (rcheck_j1 (by rw [k2 h1 h2, Bool.eq_false_iff.2 h4, Bool.and_false])))
      · exact ev_neg h3 (ev_neg (by omega) (rcheck_j1 (by rw [k2 h1 h2, ← hx, Bool.eq_false_iff.2 h3, Bool.false_and])))
    · refine ev_neg h2 ?_
      by_cases h3 : m.kind = 2
      · exact ev_pos h3 (rcheck_j1 (by rw [k3 h1 h2 h3, hx]))
      · exact ev_neg h3 (rcheck_j1 (by rw [k4 h1 h2 h3]))
theorem rcheck_ev (m : Msg) : Ev (fun k => gangwayref09_Check.f k m.kind m.ch m.pr m.le m.fo m.ag m.ac m.role (m.root : Int) m.cost (m.bridge : Int) m.port m.age m.mage m.hello m.delay) (if m.ok = true then 0 else 91) := by
  unfold gangwayref09_Check.f
  simp only [word_eq]
  have no : ∀ {c : Prop}, ¬ c → (m.right = true → c) → false = m.right := fun h k => not_right h k
  have R := fun (h : m.right = true) => Msg.right_iff.1 h
  by_cases r0 : m.role ≥ 0
  rotate_left
  · exact ev_neg r0 (rcheck_j0 m (no r0 (fun h => (R h).1.1)))
  refine ev_pos r0 ?_
  by_cases r1 : m.role ≤ 3
  rotate_left
  · exact ev_neg r1 (rcheck_j0 m (no r1 (fun h => (R h).1.2)))
  refine ev_pos r1 ?_
  by_cases c0 : m.cost ≥ 0
  rotate_left
  · exact ev_neg c0 (rcheck_j0 m (no c0 (fun h => (R h).2.1.1)))
  refine ev_pos c0 ?_
  by_cases c1 : m.cost ≤ 4294967295
  rotate_left
  · exact ev_neg c1 (rcheck_j0 m (no c1 (fun h => (R h).2.1.2)))
  refine ev_pos c1 (ev_some ?_)
  by_cases p : 0 ≤ m.port ∧ m.port ≤ 65535
  rotate_left
  · exact ev_neg (by rw [decide_eq_false p]; decide) (rcheck_j0 m (no p (fun h => (R h).2.2.1)))
  refine ev_pos (decide_eq_true p) (ev_some ?_)
  by_cases a : 0 ≤ m.age ∧ m.age ≤ 65535
  rotate_left
  · exact ev_neg (by rw [decide_eq_false a]; decide) (rcheck_j0 m (no a (fun h => (R h).2.2.2.1)))
  refine ev_pos (decide_eq_true a) (ev_some ?_)
  by_cases g : 0 ≤ m.mage ∧ m.mage ≤ 65535
  rotate_left
  · exact ev_neg (by rw [decide_eq_false g]; decide) (rcheck_j0 m (no g (fun h => (R h).2.2.2.2.1)))
  refine ev_pos (decide_eq_true g) (ev_some ?_)
  by_cases e : 0 ≤ m.hello ∧ m.hello ≤ 65535
  rotate_left
  · exact ev_neg (by rw [decide_eq_false e]; decide) (rcheck_j0 m (no e (fun h => (R h).2.2.2.2.2.1)))
  refine ev_pos (decide_eq_true e) (ev_some (rcheck_j0 m ?_))
  rw [Bool.eq_iff_iff, decide_eq_true_eq, Msg.right_iff]
  exact ⟨fun d => ⟨⟨r0, r1⟩, ⟨c0, c1⟩, p, a, g, e, d⟩, fun h => h.2.2.2.2.2.2⟩
theorem rbytesW {x : Int} {n : Nat} (hn : n ≤ 8) (h0 : 0 ≤ x) (h1 : x ≤ 4294967295) : Ev (fun k => gangwayref01_Bytes.f k (IntKind.u64.wrap x) (n : Int)) (bs (be n x.toNat)) := by
  have h := bytes_ev (v := x.toNat) (n := n) (by omega) (by omega)
  rw [u64w h0 (by omega)]
  rw [Int.toNat_of_nonneg h0] at h
  exact h
theorem be_one {n : Nat} (h : n < 256) : be 1 n = [n] := by
  show [n % 256] = [n]
  rw [Nat.mod_eq_of_lt h]
theorem rflags {m : Msg} (hr : m.right = true) : IntKind.u64.wrap (wrap64 ((wrap64 ((wrap64 ((wrap64 ((wrap64 ((wrap64 (((bitN m.ch 1 : Nat) : Int) + ((bitN m.pr 2 : Nat) : Int))) + (wrap64 (4 * m.role)))) + ((bitN m.le 16 : Nat) : Int))) + ((bitN m.fo 32 : Nat) : Int))) + ((bitN m.ag 64 : Nat) : Int))) + ((bitN m.ac 128 : Nat) : Int))) = ((m.flags : Nat) : Int) := by
  obtain ⟨r0, r3⟩ := (Msg.right_iff.1 hr).1
  have a1 := bitN_le m.ch 1
  have a2 := bitN_le m.pr 2
  have a3 := bitN_le m.le 16
  have a4 := bitN_le m.fo 32
  have a5 := bitN_le m.ag 64
  have a6 := bitN_le m.ac 128
  unfold Msg.flags
  generalize bitN m.ch 1 = b1 at *
  generalize bitN m.pr 2 = b2 at *
  generalize bitN m.le 16 = b3 at *
  generalize bitN m.fo 32 = b4 at *
  generalize bitN m.ag 64 = b5 at *
  generalize bitN m.ac 128 = b6 at *
  obtain ⟨r, hr'⟩ := Int.eq_ofNat_of_zero_le r0
  rw [hr'] at r3 ⊢
  have p1 : 0 ≤ 4 * (r : Int) ∧ 4 * (r : Int) ≤ 1000 := by omega
  have p2 : 0 ≤ (b1 : Int) + (b2 : Int) ∧ (b1 : Int) + (b2 : Int) ≤ 1000 := by omega
  have p3 : 0 ≤ (b1 : Int) + (b2 : Int) + 4 * (r : Int) ∧ (b1 : Int) + (b2 : Int) + 4 * (r : Int) ≤ 1000 := by omega
  have p4 : 0 ≤ (b1 : Int) + (b2 : Int) + 4 * (r : Int) + (b3 : Int) ∧ (b1 : Int) + (b2 : Int) + 4 * (r : Int) + (b3 : Int) ≤ 1000 := by omega
  have p5 : 0 ≤ (b1 : Int) + (b2 : Int) + 4 * (r : Int) + (b3 : Int) + (b4 : Int) ∧ (b1 : Int) + (b2 : Int) + 4 * (r : Int) + (b3 : Int) + (b4 : Int) ≤ 1000 := by omega
  have p6 : 0 ≤ (b1 : Int) + (b2 : Int) + 4 * (r : Int) + (b3 : Int) + (b4 : Int) + (b5 : Int) ∧ (b1 : Int) + (b2 : Int) + 4 * (r : Int) + (b3 : Int) + (b4 : Int) + (b5 : Int) ≤ 1000 := by omega
  have p7 : 0 ≤ (b1 : Int) + (b2 : Int) + 4 * (r : Int) + (b3 : Int) + (b4 : Int) + (b5 : Int) + (b6 : Int) ∧ (b1 : Int) + (b2 : Int) + 4 * (r : Int) + (b3 : Int) + (b4 : Int) + (b5 : Int) + (b6 : Int) ≤ 1000 := by omega
  have q1 : (-9223372036854775808 : Int) ≤ 0 := by decide
  have q2 : (1000 : Int) ≤ 9223372036854775807 := by decide
  have q3 : (1000 : Int) ≤ 18446744073709551615 := by decide
  have e1 : wrap64 (4 * (r : Int)) = 4 * (r : Int) := w64 (Int.le_trans q1 p1.1) (Int.le_trans p1.2 q2)
  have e2 : wrap64 ((b1 : Int) + (b2 : Int)) = (b1 : Int) + (b2 : Int) := w64 (Int.le_trans q1 p2.1) (Int.le_trans p2.2 q2)
  have e3 : wrap64 ((b1 : Int) + (b2 : Int) + 4 * (r : Int)) = (b1 : Int) + (b2 : Int) + 4 * (r : Int) := w64 (Int.le_trans q1 p3.1) (Int.le_trans p3.2 q2)
  have e4 : wrap64 ((b1 : Int) + (b2 : Int) + 4 * (r : Int) + (b3 : Int)) = (b1 : Int) + (b2 : Int) + 4 * (r : Int) + (b3 : Int) := w64 (Int.le_trans q1 p4.1) (Int.le_trans p4.2 q2)
  have e5 : wrap64 ((b1 : Int) + (b2 : Int) + 4 * (r : Int) + (b3 : Int) + (b4 : Int)) = (b1 : Int) + (b2 : Int) + 4 * (r : Int) + (b3 : Int) + (b4 : Int) := w64 (Int.le_trans q1 p5.1) (Int.le_trans p5.2 q2)
  have e6 : wrap64 ((b1 : Int) + (b2 : Int) + 4 * (r : Int) + (b3 : Int) + (b4 : Int) + (b5 : Int)) = (b1 : Int) + (b2 : Int) + 4 * (r : Int) + (b3 : Int) + (b4 : Int) + (b5 : Int) := w64 (Int.le_trans q1 p6.1) (Int.le_trans p6.2 q2)
  have e7 : wrap64 ((b1 : Int) + (b2 : Int) + 4 * (r : Int) + (b3 : Int) + (b4 : Int) + (b5 : Int) + (b6 : Int)) = (b1 : Int) + (b2 : Int) + 4 * (r : Int) + (b3 : Int) + (b4 : Int) + (b5 : Int) + (b6 : Int) := w64 (Int.le_trans q1 p7.1) (Int.le_trans p7.2 q2)
  have e8 : IntKind.u64.wrap ((b1 : Int) + (b2 : Int) + 4 * (r : Int) + (b3 : Int) + (b4 : Int) + (b5 : Int) + (b6 : Int)) = (b1 : Int) + (b2 : Int) + 4 * (r : Int) + (b3 : Int) + (b4 : Int) + (b5 : Int) + (b6 : Int) := u64w p7.1 (Int.le_trans p7.2 q3)
  rw [e1, e2, e3, e4, e5, e6, e7, e8]
  clear e1 e2 e3 e4 e5 e6 e7 e8
  omega
theorem rbuild_ev {m : Msg} (h1 : m.root < 18446744073709551616) (h2 : m.bridge < 18446744073709551616) : Ev (fun k => gangwayref09_Build.f k m.kind m.ch m.pr m.le m.fo m.ag m.ac m.role (m.root : Int) m.cost (m.bridge : Int) m.port m.age m.mage m.hello m.delay) (bbuild m) := by
  unfold gangwayref09_Build.f
  refine Ev.bind (rcheck_ev m) ?_
  unfold bbuild
  by_cases hok : m.ok = true
  rotate_left
  · rw [if_neg hok, if_neg hok]
    exact ev_neg (by decide) (ev_now rfl)
  rw [if_pos hok, if_pos hok]
  refine ev_pos rfl ?_
  unfold Msg.bytes
  rcases Msg.ok_right hok with ⟨hk, _⟩ | ⟨hk, hr, _⟩
  · rw [if_pos hk]
    exact ev_pos hk (ev_pos (by decide) (ev_now rfl))
  rw [if_neg hk]
  refine ev_neg hk ?_
  obtain ⟨⟨r0, r1⟩, ⟨c0, c1⟩, ⟨p0, p1⟩, ⟨a0, a1⟩, ⟨m0, m1⟩, ⟨e0, e1⟩, ⟨d0, d1⟩⟩ := Msg.right_iff.1 hr
  have b1 : gangwayref09_bit.f m.ch 1 = some ((bitN m.ch 1 : Nat) : Int) := by cases m.ch <;> rfl
  have b2 : gangwayref09_bit.f m.pr 2 = some ((bitN m.pr 2 : Nat) : Int) := by cases m.pr <;> rfl
  have b3 : gangwayref09_bit.f m.le 16 = some ((bitN m.le 16 : Nat) : Int) := by cases m.le <;> rfl
  have b4 : gangwayref09_bit.f m.fo 32 = some ((bitN m.fo 32 : Nat) : Int) := by cases m.fo <;> rfl
  have b5 : gangwayref09_bit.f m.ag 64 = some ((bitN m.ag 64 : Nat) : Int) := by cases m.ag <;> rfl
  have b6 : gangwayref09_bit.f m.ac 128 = some ((bitN m.ac 128 : Nat) : Int) := by cases m.ac <;> rfl
  rw [b1, b2, b3, b4, b5, b6]
  refine ev_some (ev_some (ev_some (ev_some (ev_some (ev_some ?_)))))
  rw [rflags hr]
  have hf := Msg.flags_lt hr
  have s2 : ∀ n x : Nat, (bs (be n x)).size = n := fun n x => by rw [bs_size, be_len]
  have q1 : Ev (fun k => gangwayref01_Bytes.f k ((m.flags : Nat) : Int) 1) (bs (be 1 m.flags)) := bytes_ev (n := 1) (by decide) (by omega)
  have q2 : Ev (fun k => gangwayref01_Bytes.f k ((m.root : Nat) : Int) 8) (bs (be 8 m.root)) := bytes_ev (n := 8) (by decide) h1
  have q3 : Ev (fun k => gangwayref01_Bytes.f k (IntKind.u64.wrap m.cost) 4) (bs (be 4 m.cost.toNat)) := rbytesW (n := 4) (by decide) c0 c1
  have q4 : Ev (fun k => gangwayref01_Bytes.f k ((m.bridge : Nat) : Int) 8) (bs (be 8 m.bridge)) := bytes_ev (n := 8) (by decide) h2
  have q5 : Ev (fun k => gangwayref01_Bytes.f k (IntKind.u64.wrap m.port) 2) (bs (be 2 m.port.toNat)) := rbytesW (n := 2) (by decide) p0 (by omega)
  have q6 : Ev (fun k => gangwayref01_Bytes.f k (IntKind.u64.wrap m.age) 2) (bs (be 2 m.age.toNat)) := rbytesW (n := 2) (by decide) a0 (by omega)
  have q7 : Ev (fun k => gangwayref01_Bytes.f k (IntKind.u64.wrap m.mage) 2) (bs (be 2 m.mage.toNat)) := rbytesW (n := 2) (by decide) m0 (by omega)
  have q8 : Ev (fun k => gangwayref01_Bytes.f k (IntKind.u64.wrap m.hello) 2) (bs (be 2 m.hello.toNat)) := rbytesW (n := 2) (by decide) e0 (by omega)
  have q9 : Ev (fun k => gangwayref01_Bytes.f k (IntKind.u64.wrap m.delay) 2) (bs (be 2 m.delay.toNat)) := rbytesW (n := 2) (by decide) d0 (by omega)
  have ec : bs [m.flags] ++ bs m.nums = bs (be 1 m.flags) ++ bs (be 8 m.root) ++ bs (be 4 m.cost.toNat) ++ bs (be 8 m.bridge) ++ bs (be 2 m.port.toNat) ++ bs (be 2 m.age.toNat) ++ bs (be 2 m.mage.toNat) ++ bs (be 2 m.hello.toNat) ++ bs (be 2 m.delay.toNat) := by
    rw [be_one hf]
    unfold Msg.nums
    simp only [← bs_append, List.append_assoc]
  refine Ev.bind q1 (Ev.bind q2 (ev_pos (by simp only [ByteArray.size_append, s2]; decide) (Ev.bind q3 (ev_pos (by simp only [ByteArray.size_append, s2]; decide) (Ev.bind q4 (ev_pos (by simp only [ByteArray.size_append, s2]; decide) (Ev.bind q5 (ev_pos (by simp only [ByteArray.size_append, s2]; decide) (Ev.bind q6 (ev_pos (by simp only [ByteArray.size_append, s2]; decide) (Ev.bind q7 (ev_pos (by simp only [ByteArray.size_append, s2]; decide) (Ev.bind q8 (ev_pos (by simp only [ByteArray.size_append, s2]; decide) (Ev.bind q9 (ev_pos (by simp only [ByteArray.size_append, s2]; decide) ?_))))))))))))))))
  rw [← ec]
  have z : (bs [m.flags] ++ bs m.nums).size = 31 := by rw [ByteArray.size_append, bs_size, bs_size, Msg.nums_len]; rfl
  by_cases h0 : m.kind = 2
  · refine ev_pos h0 (ev_pos (by decide) (ev_pos (by omega) (ev_pos ?_ (ev_now ?_))))
    · rw [ByteArray.size_append, z]
      decide
    · rw [if_pos h0]
      refine congrArg (fun x => (x, (0 : Int))) ?_
      rw [bs_append, bs_append, bs_append, bs_append, ← ByteArray.append_assoc, ← ByteArray.append_assoc, ← ByteArray.append_assoc, ← ByteArray.append_assoc]
      rfl
  · refine ev_neg h0 (ev_pos (by decide) (ev_pos (by omega) (ev_now ?_)))
    rw [if_neg h0]
    refine congrArg (fun x => (x, (0 : Int))) ?_
    rw [bs_append, bs_append, bs_append, ← ByteArray.append_assoc]
    rfl
end Go.Proofs.YtbfjlhjfpmgplaaDoor.P
namespace Go.Proofs.YtbfjlhjfpmgplaaDoor.P
set_option linter.unusedSimpArgs false
set_option linter.unusedVariables false
open Go Go.RowKit Go.Proofs.YtbfjlhjfpmgplaaDoorW.PrintWords Go.Proofs.YtbfjlhjfpmgplaaDoorW.PrintLast Go.Proofs.YtbfjlhjfpmgplaaDoorW.PrintMore Go.Proofs.YtbfjlhjfpmgplaaDoor.L

theorem rnum_ev {s : ByteArray} {i n : Nat} (hn : n ≤ 4) (h : i + n ≤ s.size) : Ev (fun k => gangwayref09_num.f k s (i : Int) ((i + n : Nat) : Int)) ((numAt (nb s) i n : Nat) : Int) := by
  unfold gangwayref09_num.f
  refine ev_pos (by omega) (ev_pos (by omega) (ev_pos (by omega) ?_))
  rw [Int.toNat_natCast, Int.toNat_natCast]
  have e : nb (s.extract i (i + n)) = ((nb s).drop i).take n := by rw [nb_extract, List.drop_take, Nat.add_sub_cancel_left]
  have g := num_ev (t := s.extract i (i + n)) (by rw [ByteArray.size_extract]; omega)
  rw [e] at g
  refine Ev.bind g (ev_now ?_)
  have l := numAt_lt (nb_byt s) i n
  have hp : 256 ^ n ≤ 256 ^ 4 := Nat.pow_le_pow_right (by decide) hn
  rw [e256.2.1] at hp
  show wrap64 ((numAt (nb s) i n : Nat) : Int) = _
  exact w64 (by omega) (by omega)
theorem rnum8_ev {s : ByteArray} {i j : Nat} (hj : j = i + 8) (h : j ≤ s.size) : Ev (fun k => gangwayref01_Num.f k (s.extract i j)) ((numAt (nb s) i 8 : Nat) : Int) := by
  subst hj
  have e : nb (s.extract i (i + 8)) = ((nb s).drop i).take 8 := by rw [nb_extract, List.drop_take, Nat.add_sub_cancel_left]
  have g := num_ev (t := s.extract i (i + 8)) (by rw [ByteArray.size_extract]; omega)
  rw [e] at g
  exact g
theorem drop_getD {l : List Nat} {i : Nat} (h : i < l.length) : l.drop i = l.getD i 0 :: l.drop (i + 1) := by
  rw [List.getD_eq_getElem?_getD, List.getElem?_eq_getElem h, Option.getD_some]
  exact List.drop_eq_getElem_cons h
theorem numAt_one {l : List Nat} {i : Nat} (h : i < l.length) : numAt l i 1 = l.getD i 0 := by
  unfold numAt
  rw [drop_getD h]
  show num [l.getD i 0] = _
  simp [num]
theorem numAt_two {l : List Nat} {i : Nat} (h : i + 1 < l.length) : (l.drop i).take 2 = [l.getD i 0, l.getD (i + 1) 0] ∧ numAt l i 2 = l.getD i 0 * 256 + l.getD (i + 1) 0 := by
  have e : (l.drop i).take 2 = [l.getD i 0, l.getD (i + 1) 0] := by
    rw [drop_getD (i := i) (by omega), drop_getD (i := i + 1) h]
    rfl
  refine ⟨e, ?_⟩
  unfold numAt
  rw [e]
  simp [num]
theorem t_one : ∀ b : Nat, b < 256 → (Int.tmod (b : Int) 2 == 1) = decide (b % 2 = 1) ∧ (wrap64 (Int.tdiv (b : Int) 128) == 1) = decide (b / 128 % 2 = 1) ∧ (Int.tmod (wrap64 (Int.tdiv (b : Int) 2)) 2 == 1) = decide (b / 2 % 2 = 1) ∧ (Int.tmod (wrap64 (Int.tdiv (b : Int) 16)) 2 == 1) = decide (b / 16 % 2 = 1) ∧ (Int.tmod (wrap64 (Int.tdiv (b : Int) 32)) 2 == 1) = decide (b / 32 % 2 = 1) ∧ (Int.tmod (wrap64 (Int.tdiv (b : Int) 64)) 2 == 1) = decide (b / 64 % 2 = 1) ∧ Int.tmod (wrap64 (Int.tdiv (b : Int) 4)) 4 = ((b / 4 % 4 : Nat) : Int) := by decide +kernel
theorem rparse_j1 {s : ByteArray} (hs : s.size ≤ 1000000) {c : Bool} {x : Int} (h : c = true ↔ s.size < 38 ∨ x = 514 ∧ s.size < 39) (h0 : x = 0 ∧ ((nb s).drop 5).take 2 = [0, 0] ∨ x = 514 ∧ ((nb s).drop 5).take 2 = [2, 2]) (h7 : 7 ≤ s.size) (hh : (nb s).take 5 = bhead) :
    Ev (fun k => gangwayref09_Parse.j1 k s x c) (mtup (bparse (nb s)).1 (bparse (nb s)).2) := by
  have hl := nb_len s
  refine ev_succ ?_
  simp only [gangwayref09_Parse.j1]
  unfold bparse
  rw [hl, if_neg (by omega), if_neg (by rw [hh]; exact fun h => h rfl)]
  by_cases hc : c = true
  · refine ev_pos hc ?_
    rcases h0 with ⟨hx, h0⟩ | ⟨hx, h0⟩
    · rw [h0, if_neg (by decide), if_pos rfl, if_pos (by rcases h.1 hc with h | h <;> omega)]
      exact ev_now rfl
    · rw [h0, if_neg (by decide), if_neg (by decide), if_pos rfl, if_pos (by rcases h.1 hc with h | h <;> omega)]
      exact ev_now rfl
  · refine ev_neg hc ?_
    have h1 : ¬ s.size < 38 := fun k => hc (h.2 (Or.inl k))
    have hb := getD_byte (nb_byt s) 7
    obtain ⟨t1, t2, t3, t4, t5, t6, t7⟩ := t_one _ hb
    have q0 : Ev (fun k => gangwayref09_num.f k s 7 8) ((numAt (nb s) 7 1 : Nat) : Int) := rnum_ev (i := 7) (n := 1) (by decide) (by omega)
    rw [numAt_one (by omega)] at q0
    have q1 : Ev (fun k => gangwayref09_num.f k s 16 20) ((numAt (nb s) 16 4 : Nat) : Int) := rnum_ev (i := 16) (n := 4) (by decide) (by omega)
    have q2 : Ev (fun k => gangwayref09_num.f k s 28 30) ((numAt (nb s) 28 2 : Nat) : Int) := rnum_ev (i := 28) (n := 2) (by decide) (by omega)
    have q3 : Ev (fun k => gangwayref09_num.f k s 30 32) ((numAt (nb s) 30 2 : Nat) : Int) := rnum_ev (i := 30) (n := 2) (by decide) (by omega)
    have q4 : Ev (fun k => gangwayref09_num.f k s 32 34) ((numAt (nb s) 32 2 : Nat) : Int) := rnum_ev (i := 32) (n := 2) (by decide) (by omega)
    have q5 : Ev (fun k => gangwayref09_num.f k s 34 36) ((numAt (nb s) 34 2 : Nat) : Int) := rnum_ev (i := 34) (n := 2) (by decide) (by omega)
    have q6 : Ev (fun k => gangwayref09_num.f k s 36 38) ((numAt (nb s) 36 2 : Nat) : Int) := rnum_ev (i := 36) (n := 2) (by decide) (by omega)
    have g1 : Ev (fun k => gangwayref01_Num.f k (s.extract 8 16)) ((numAt (nb s) 8 8 : Nat) : Int) := rnum8_ev rfl (by omega)
    have g2 : Ev (fun k => gangwayref01_Num.f k (s.extract 20 28)) ((numAt (nb s) 20 8 : Nat) : Int) := rnum8_ev rfl (by omega)
    refine Ev.bind q0 (ev_pos (by decide) (ev_pos (by omega) (Ev.bind g1 (Ev.bind q1 (ev_pos (by decide) (ev_pos (by omega) (Ev.bind g2 (Ev.bind q2 (Ev.bind q3 (Ev.bind q4 (Ev.bind q5 (Ev.bind q6 (ev_succ ?_)))))))))))))
    simp only [gangwayref09_Parse.j2]
    rw [t1, t2, t3, t4, t5, t6, t7]
    rcases h0 with ⟨hx, h0⟩ | ⟨hx, h0⟩
    · refine ev_neg (by simp [hx]) (ev_now ?_)
      rw [h0, if_neg (by decide), if_pos rfl, if_neg h1]
      rfl
    · have h2 : ¬ s.size < 39 := fun k => hc (h.2 (Or.inr ⟨hx, k⟩))
      refine ev_pos (by simp [hx]) (ev_now ?_)
      rw [h0, if_neg (by decide), if_neg (by decide), if_pos rfl, if_neg h2]
      rfl
theorem rparse_ev {s : ByteArray} (hs : s.size ≤ 1000000) : Ev (fun k => gangwayref09_Parse.f k s) (mtup (bparse (nb s)).1 (bparse (nb s)).2) := by
  have hl := nb_len s
  unfold gangwayref09_Parse.f
  by_cases h7 : s.size < 7
  · refine ev_pos (by omega) ?_
    unfold bparse
    rw [hl, if_pos h7]
    exact ev_now rfl
  refine ev_neg (by omega) (ev_pos (by decide) (ev_pos (by omega) ?_))
  have he : (s.extract 0 5).toList = ([66, 66, 3, 0, 0] : List UInt8) ↔ (nb s).take 5 = bhead := by
    refine (list_nb _ _).trans ?_
    rw [nb_extract]
    exact Iff.rfl
  by_cases hh : (nb s).take 5 = bhead
  rotate_left
  · refine ev_neg (fun h => hh (he.1 h)) ?_
    unfold bparse
    rw [hl, if_neg h7, if_pos hh]
    exact ev_now rfl
  refine ev_pos (he.2 hh) ?_
  have q : Ev (fun k => gangwayref09_num.f k s 5 7) ((numAt (nb s) 5 2 : Nat) : Int) := rnum_ev (i := 5) (n := 2) (by decide) (by omega)
  refine Ev.bind q ?_
  obtain ⟨c2, n2⟩ := numAt_two (l := nb s) (i := 5) (by omega)
  have b5 := getD_byte (nb_byt s) 5
  have b6 := getD_byte (nb_byt s) (5 + 1)
  rw [n2]
  have go : ∀ x : Int, (x = 0 ∧ ((nb s).drop 5).take 2 = [0, 0] ∨ x = 514 ∧ ((nb s).drop 5).take 2 = [2, 2]) → Ev (fun k => gangwayref09_Parse.j0 k s x false) (mtup (bparse (nb s)).1 (bparse (nb s)).2) := by
    intro x h0
    refine ev_succ ?_
    simp only [gangwayref09_Parse.j0]
    refine ev_neg (by decide) ?_
    by_cases h38 : s.size < 38
    · exact ev_pos (by omega) (rparse_j1 hs ⟨fun _ => Or.inl h38, fun _ => rfl⟩ h0 (by omega) hh)
    refine ev_neg (by omega) ?_
    by_cases hx : x = 0
    · exact ev_pos hx (rparse_j1 hs ⟨fun h => (by cases h), fun h => by rcases h with h | h <;> omega⟩ h0 (by omega) hh)
    · refine ev_neg hx (rparse_j1 hs ?_ h0 (by omega) hh)
      rw [decide_eq_true_eq]
      have hx5 : x = 514 := by
        rcases h0 with h | h
        · exact absurd h.1 hx
        · exact h.1
      omega
  have go' : ∀ a b : Nat, a < 256 → b < 256 → ((nb s).drop 5).take 2 = [a, b] → Ev (fun k => if ((a * 256 + b : Nat) : Int) = 128 then (some (128, false, false, false, false, false, false, 0, 0, 0, 0, 0, 0, 0, 0, 0, 0)) else (if ((a * 256 + b : Nat) : Int) = 0 then (gangwayref09_Parse.j0 k s ((a * 256 + b : Nat) : Int) false) else (gangwayref09_Parse.j0 k s ((a * 256 + b : Nat) : Int) (((a * 256 + b : Nat) : Int) != 514)))) (mtup (bparse (nb s)).1 (bparse (nb s)).2) := by
    intro a b ha hb hc
    by_cases k1 : a * 256 + b = 128
    · refine ev_pos (by omega) ?_
      obtain ⟨rfl, rfl⟩ : a = 0 ∧ b = 128 := by omega
      unfold bparse
      rw [hl, if_neg h7, if_neg (by rw [hh]; exact fun h => h rfl), if_pos hc]
      exact ev_now rfl
    refine ev_neg (by omega) ?_
    by_cases k2 : a * 256 + b = 0
    · refine ev_pos (by omega) ?_
      obtain ⟨rfl, rfl⟩ : a = 0 ∧ b = 0 := by omega
      exact go _ (Or.inl ⟨rfl, hc⟩)
    refine ev_neg (by omega) ?_
    by_cases k3 : a * 256 + b = 514
    · obtain ⟨rfl, rfl⟩ : a = 2 ∧ b = 2 := by omega
      exact go _ (Or.inr ⟨rfl, hc⟩)
    · have e : (((a * 256 + b : Nat) : Int) != 514) = true := by
        rw [bne_iff_ne]
        omega
      rw [e]
      unfold bparse
      rw [hl, if_neg h7, if_neg (by rw [hh]; exact fun h => h rfl), hc, if_neg (by simp; omega), if_neg (by simp; omega), if_neg (by simp; omega)]
      refine ev_succ ?_
      simp only [gangwayref09_Parse.j0]
      first | exact ev_pos rfl (ev_now rfl) | exact ev_pos trivial (ev_now rfl) | exact ev_now rfl
  exact go' _ _ b5 b6 c2
end Go.Proofs.YtbfjlhjfpmgplaaDoor.P
namespace Go.Proofs.YtbfjlhjfpmgplaaDoor.P
set_option linter.unusedSimpArgs false
set_option linter.unusedVariables false
open Go Go.RowKit Go.Proofs.YtbfjlhjfpmgplaaDoorW.PrintWords Go.Proofs.YtbfjlhjfpmgplaaDoorW.PrintLast Go.Proofs.YtbfjlhjfpmgplaaDoorW.PrintMore Go.Proofs.YtbfjlhjfpmgplaaDoor.L

theorem rgroup_eq {m : Nat} (h : m < 18446744073709551616) : gangwayref02_Group.f (m : Int) = some (grpN m) := by
  unfold gangwayref02_Group.f grpN
  rw [Int.tdiv_eq_ediv_of_nonneg (by omega), u64w (by omega) (by omega), Int.tmod_eq_emod_of_nonneg (by omega)]
  congr 1
  rw [Bool.eq_iff_iff, beq_iff_eq, decide_eq_true_eq]
  omega
theorem rown_eq {m : Nat} (h : m < 18446744073709551616) : gangwayref02_Own.f (m : Int) = some (ownN m) := by
  unfold gangwayref02_Own.f ownN
  by_cases h0 : m = 0
  · subst h0
    rfl
  · rw [if_pos (by omega), decide_eq_true (show 0 < m by omega)]
    by_cases h1 : m < 281474976710656
    · rw [if_pos (by omega), rgroup_eq h, decide_eq_true h1]
      rfl
    · rw [if_neg (by omega), decide_eq_false h1]
      rfl
theorem rframe_ev {src : Nat} {m : Msg} (h0 : src < 18446744073709551616) (h1 : m.root < 18446744073709551616) (h2 : m.bridge < 18446744073709551616) :
    Ev (fun k => gangwayref09_Frame.f k (src : Int) m.kind m.ch m.pr m.le m.fo m.ag m.ac m.role (m.root : Int) m.cost (m.bridge : Int) m.port m.age m.mage m.hello m.delay) (bframe src m) := by
  unfold gangwayref09_Frame.f
  refine Ev.bind (rbuild_ev h1 h2) ?_
  unfold bbuild bframe
  by_cases hok : m.ok = true
  · rw [if_pos hok, rown_eq h0]
    refine ev_pos rfl (ev_some ?_)
    by_cases ho : ownN src = true
    · rw [if_pos (show m.ok = true ∧ ownN src = true from ⟨hok, ho⟩)]
      exact ev_pos ho (ev_now rfl)
    · rw [if_neg (show ¬ (m.ok = true ∧ ownN src = true) from fun h => ho h.2)]
      exact ev_neg ho (ev_now rfl)
  · rw [if_neg hok, if_neg (show ¬ (m.ok = true ∧ ownN src = true) from fun h => hok h.1)]
    exact ev_neg (by decide) (ev_now rfl)
theorem rof_ev {s : ByteArray} (hs : s.size ≤ 1000000) (dst src : Int) (tag : Bool) (x : Int) (y : Bool) (z ty : Int) :
    Ev (fun k => gangwayref09_Of.f k dst src tag x y z ty s) (mtup (bof dst tag ty s).1 (bof dst tag ty s).2) := by
  unfold gangwayref09_Of.f bof
  refine Ev.bind (rparse_ev hs) ?_
  obtain ⟨m, e, hb⟩ : ∃ m e, bparse (nb s) = (m, e) := ⟨_, _, rfl⟩
  rw [hb]
  by_cases h1 : dst = 1652522221568
  · refine ev_pos h1 ?_
    cases tag
    · refine ev_neg (by decide) ?_
      by_cases h2 : ty = 0
      · rw [if_pos (show dst = 1652522221568 ∧ false = false ∧ ty = 0 from ⟨h1, rfl, h2⟩)]
        refine ev_pos h2 ?_
        by_cases he : e = 0
        · subst he
          exact ev_pos rfl (ev_now rfl)
        · have hm := parsed_bad hb he
          subst hm
          refine ev_neg he (ev_now ?_)
          have : (e == 0) = false := by simp [he]
          simp only [mtup, this]
          rfl
      · rw [if_neg (show ¬ (dst = 1652522221568 ∧ false = false ∧ ty = 0) from fun h => h2 h.2.2)]
        exact ev_neg h2 (ev_now rfl)
    · rw [if_neg (show ¬ (dst = 1652522221568 ∧ true = false ∧ ty = 0) from fun h => by cases h.2.1)]
      exact ev_pos rfl (ev_now rfl)
  · rw [if_neg (show ¬ (dst = 1652522221568 ∧ tag = false ∧ ty = 0) from fun h => h1 h.1)]
    exact ev_neg h1 (ev_now rfl)
end Go.Proofs.YtbfjlhjfpmgplaaDoor.P
