/- Plain facts that this seat's proofs share: bytes as natural numbers, wraps, masks, numbers as bytes. No program in sight. -/
import Derived.Test.YtbfjlhjfpmgplaaDoorWMore
import Derived.Laws.BitsLemmas
namespace Go.Proofs.YtbfjlhjfpmgplaaDoor.L
open Go Go.RowKit Go.Proofs.YtbfjlhjfpmgplaaDoorW.PrintWords Go.Proofs.YtbfjlhjfpmgplaaDoorW.PrintLast Go.Proofs.YtbfjlhjfpmgplaaDoorW.PrintMore

/-- A text's bytes as natural numbers. -/
def nb (s : ByteArray) : List Nat := s.data.toList.map UInt8.toNat
/-- The text of such numbers. -/
def bs (l : List Nat) : ByteArray := ⟨(l.map UInt8.ofNat).toArray⟩
/-- All are bytes. -/
def Byt (l : List Nat) : Prop := ∀ x ∈ l, x < 256

theorem nb_len (s : ByteArray) : (nb s).length = s.size := by
  unfold nb
  rw [List.length_map, Array.length_toList]
  rfl
theorem bs_size (l : List Nat) : (bs l).size = l.length := by
  unfold bs
  simp [ByteArray.size]
theorem nb_byt (s : ByteArray) : Byt (nb s) := by
  intro x hx
  obtain ⟨b, _, rfl⟩ := List.mem_map.1 hx
  exact b.toNat_lt
theorem nb_bs {l : List Nat} (h : Byt l) : nb (bs l) = l := by
  unfold nb bs
  simp only [List.map_map]
  have : ∀ x ∈ l, (UInt8.toNat ∘ UInt8.ofNat) x = x := fun x hx => by
    have := h x hx
    simp [Nat.mod_eq_of_lt this]
  rw [List.map_congr_left this]
  simp
theorem bs_nb (s : ByteArray) : bs (nb s) = s := by
  unfold nb bs
  rw [List.map_map]
  have : (UInt8.ofNat ∘ UInt8.toNat) = id := by
    funext x
    simp
  rw [this]
  simp
theorem nb_inj {s t : ByteArray} (h : nb s = nb t) : s = t := by rw [← bs_nb s, h, bs_nb]
theorem bs_inj {l m : List Nat} (hl : Byt l) (hm : Byt m) (h : bs l = bs m) : l = m := by rw [← nb_bs hl, h, nb_bs hm]
theorem nb_append (s t : ByteArray) : nb (s ++ t) = nb s ++ nb t := by
  unfold nb
  rw [ByteArray.data_append, Array.toList_append, List.map_append]
theorem bs_append (l m : List Nat) : bs (l ++ m) = bs l ++ bs m := by
  unfold bs
  apply ByteArray.ext
  rw [ByteArray.data_append]
  simp
theorem nb_extract (s : ByteArray) (i j : Nat) : nb (s.extract i j) = ((nb s).take j).drop i := by
  unfold nb
  rw [ByteArray.data_extract, Array.toList_extract, List.extract_eq_take_drop]
  rw [← List.map_take, ← List.map_drop]
  congr 1
  rw [List.drop_take]
theorem nb_empty : nb (⟨#[]⟩ : ByteArray) = [] := rfl
theorem Byt.nil : Byt [] := fun _ h => by cases h
theorem Byt.cons {x : Nat} {l : List Nat} (hx : x < 256) (h : Byt l) : Byt (x :: l) := fun y hy => by
  rcases List.mem_cons.1 hy with rfl | hy
  · exact hx
  · exact h y hy
theorem Byt.append {l m : List Nat} (h : Byt l) (k : Byt m) : Byt (l ++ m) := fun x hx => by
  rcases List.mem_append.1 hx with hx | hx
  · exact h x hx
  · exact k x hx
theorem Byt.take {l : List Nat} (h : Byt l) (n : Nat) : Byt (l.take n) := fun x hx => h x (List.mem_of_mem_take hx)
theorem Byt.drop {l : List Nat} (h : Byt l) (n : Nat) : Byt (l.drop n) := fun x hx => h x (List.mem_of_mem_drop hx)
theorem bs_extract (l : List Nat) (i j : Nat) : (bs l).extract i j = bs ((l.take j).drop i) := by
  apply ByteArray.ext
  unfold bs
  rw [ByteArray.data_extract]
  apply Array.toList_inj.1
  rw [Array.toList_extract, List.extract_eq_take_drop]
  simp only
  rw [← List.map_drop, ← List.map_take, List.drop_take]
theorem bt_nb (s : ByteArray) (i : Int) : bt s i = ((nb s).getD i.toNat 0 : Nat) := by
  unfold bt nb
  by_cases h : i.toNat < s.size
  · rw [dif_pos h]
    rw [List.getD_eq_getElem?_getD, List.getElem?_map]
    have h2 : i.toNat < s.data.toList.length := by rw [Array.length_toList]; exact h
    rw [List.getElem?_eq_getElem h2]
    simp
    rfl
  · rw [dif_neg h]
    rw [List.getD_eq_getElem?_getD, List.getElem?_eq_none (by rw [List.length_map, Array.length_toList]; exact Nat.not_lt.1 h)]
    rfl
theorem bt_bs {l : List Nat} (h : Byt l) (i : Int) : bt (bs l) i = (l.getD i.toNat 0 : Nat) := by rw [bt_nb, nb_bs h]
theorem nb_nums (l : List Int) (h : ∀ x ∈ l, 0 ≤ x ∧ x < 256) : nb (strOfNums l) = l.map Int.toNat := by
  unfold nb strOfNums
  simp only [List.map_map]
  apply List.map_congr_left
  intro x hx
  have := h x hx
  simp only [Function.comp]
  rw [UInt8.toNat_ofNat']
  exact Nat.mod_eq_of_lt (by omega)
theorem nums_bs (l : List Int) (h : ∀ x ∈ l, 0 ≤ x ∧ x < 256) : strOfNums l = bs (l.map Int.toNat) := nb_inj (by
  rw [nb_nums l h, nb_bs]
  intro x hx
  obtain ⟨y, hy, rfl⟩ := List.mem_map.1 hx
  have := h y hy
  omega)
theorem size_bs_le {l : List Nat} {n : Nat} (h : l.length ≤ n) : (bs l).size ≤ n := by rw [bs_size]; exact h

theorem w64 {x : Int} (h0 : -9223372036854775808 ≤ x) (h1 : x ≤ 9223372036854775807) : wrap64 x = x := by
  unfold wrap64
  omega
theorem u64w {x : Int} (h0 : 0 ≤ x) (h1 : x ≤ 18446744073709551615) : IntKind.u64.wrap x = x := by
  have : IntKind.u64.wrap x = x % 18446744073709551616 := by simp [IntKind.wrap, IntKind.bits, IntKind.signed]
  rw [this]
  omega
theorem u64w_mod (x : Int) : IntKind.u64.wrap x = x % 18446744073709551616 := by simp [IntKind.wrap, IntKind.bits, IntKind.signed]
theorem u32w_mod (x : Int) : IntKind.u32.wrap x = x % 4294967296 := IntKind.wrap_u32 x

/-- 'x & (2^i - 1)' of whatever int, negative ones too. -/
theorem mask_nat (x : Int) (i : Nat) (hi : i ≤ 62) : Go.bits .and .i64 x (((2 ^ i - 1 : Nat) : Int)) = x % ((2 ^ i : Nat) : Int) := by
  have e0 : Go.bits .and .i64 x (((2 ^ i - 1 : Nat) : Int)) = IntKind.i64.wrap ((BitVec.ofInt 64 x &&& BitVec.ofInt 64 (((2 ^ i - 1 : Nat) : Int))).toNat : Int) := rfl
  rw [e0]
  have hp : 0 < 2 ^ i := Nat.two_pow_pos i
  have hle : 2 ^ i ≤ 2 ^ 62 := Nat.pow_le_pow_right (by decide) hi
  have hb : (BitVec.ofInt 64 ((2 ^ i - 1 : Nat) : Int)).toNat = 2 ^ i - 1 := by
    rw [BitVec.ofInt_natCast, BitVec.toNat_ofNat]
    exact Nat.mod_eq_of_lt (by omega)
  rw [BitVec.toNat_and, hb, Nat.and_two_pow_sub_one_eq_mod, BitVec.toNat_ofInt]
  have hm : 0 ≤ x % ((2 ^ 64 : Nat) : Int) := Int.emod_nonneg _ (by decide)
  have e : (((x % ((2 ^ 64 : Nat) : Int)).toNat % 2 ^ i : Nat) : Int) = x % ((2 ^ i : Nat) : Int) := by
    rw [Int.natCast_emod, Int.toNat_of_nonneg hm]
    have hd : ((2 ^ i : Nat) : Int) ∣ ((2 ^ 64 : Nat) : Int) := Int.natCast_dvd_natCast.2 (Nat.pow_dvd_pow 2 (by omega))
    exact Int.emod_emod_of_dvd x hd
  rw [e]
  have h1 : 0 ≤ x % ((2 ^ i : Nat) : Int) := Int.emod_nonneg _ (by omega)
  have h2 : x % ((2 ^ i : Nat) : Int) < ((2 ^ i : Nat) : Int) := Int.emod_lt_of_pos _ (by omega)
  rw [IntKind.wrap_i64]
  have h3 : ((2 ^ i : Nat) : Int) ≤ ((2 ^ 62 : Nat) : Int) := Int.ofNat_le.2 hle
  have h4 : ((2 ^ 62 : Nat) : Int) = 4611686018427387904 := by decide
  omega
theorem mask16 (x : Int) : Go.bits .and .i64 x 65535 = x % 65536 := mask_nat x 16 (by decide)
theorem mask4 (x : Int) : Go.bits .and .i64 x 15 = x % 16 := mask_nat x 4 (by decide)
theorem mask24 (x : Int) : Go.bits .and .i64 x 16777215 = x % 16777216 := mask_nat x 24 (by decide)
theorem mask3 (x : Int) : Go.bits .and .i64 x 7 = x % 8 := mask_nat x 3 (by decide)

/-- A number's n bytes, the greatest one first. -/
def be : Nat → Nat → List Nat
  | 0, _ => []
  | n + 1, v => be n (v / 256) ++ [v % 256]
/-- The number of bytes. -/
def num (l : List Nat) : Nat := l.foldl (fun v x => v * 256 + x) 0
theorem be_len (n v : Nat) : (be n v).length = n := by
  induction n generalizing v with
  | zero => rfl
  | succ n ih => simp [be, ih]
theorem be_byt (n v : Nat) : Byt (be n v) := by
  induction n generalizing v with
  | zero => exact Byt.nil
  | succ n ih => exact (ih _).append (Byt.cons (Nat.mod_lt _ (by decide)) Byt.nil)
theorem be_top (n v : Nat) : be (n + 1) v = (v / 256 ^ n % 256) :: be n v := by
  induction n generalizing v with
  | zero => simp [be]
  | succ n ih =>
    show be (n + 1) (v / 256) ++ [v % 256] = _
    rw [ih (v / 256), Nat.div_div_eq_div_mul, ← Nat.pow_succ']
    rfl
theorem num_snoc (l : List Nat) (x : Nat) : num (l ++ [x]) = num l * 256 + x := by simp [num, List.foldl_append]
theorem num_be (n v : Nat) : num (be n v) = v % 256 ^ n := by
  induction n generalizing v with
  | zero => simp [be, num, Nat.mod_one]
  | succ n ih =>
    rw [be, num_snoc, ih]
    have h := Nat.div_add_mod v 256
    have h2 := Nat.mod_mul (x := v) (a := 256) (b := 256 ^ n)
    rw [← Nat.pow_succ'] at h2
    rw [h2]
    omega
theorem num_lt {l : List Nat} (h : Byt l) : num l < 256 ^ l.length := by
  suffices ∀ (m : List Nat) (_ : Byt m) (a n : Nat), a < 256 ^ n → m.foldl (fun v x => v * 256 + x) a < 256 ^ (n + m.length) by
    simpa [num] using this l h 0 0 (by decide)
  intro m
  induction m with
  | nil => intro _ a n ha; simpa using ha
  | cons x r ih =>
    intro hm a n ha
    have hx : x < 256 := hm x (List.mem_cons_self)
    have := ih (fun y hy => hm y (List.mem_cons_of_mem _ hy)) (a * 256 + x) (n + 1) (by rw [Nat.pow_succ]; omega)
    simp only [List.foldl_cons, List.length_cons]
    rw [show n + (r.length + 1) = n + 1 + r.length by omega]
    exact this
theorem be_num (l : List Nat) (h : Byt l) : be l.length (num l) = l := by
  suffices ∀ n (m : List Nat), m.length = n → Byt m → be n (num m) = m from this _ l rfl h
  intro n
  induction n with
  | zero => intro m hm _; rw [List.eq_nil_of_length_eq_zero hm]; rfl
  | succ n ih =>
    intro m hm hb
    have hne : m ≠ [] := by
      intro e
      rw [e] at hm
      simp at hm
    obtain ⟨x, hx⟩ : ∃ x, m = m.dropLast ++ [x] := ⟨m.getLast hne, (List.dropLast_concat_getLast hne).symm⟩
    have hx2 : x < 256 := hb x (by rw [hx]; simp)
    have hl : m.dropLast.length = n := by simp [hm]
    have hb2 : Byt m.dropLast := fun y hy => hb y (by rw [hx]; exact List.mem_append_left _ hy)
    rw [hx, be, num_snoc]
    rw [show (num m.dropLast * 256 + x) / 256 = num m.dropLast by omega, show (num m.dropLast * 256 + x) % 256 = x by omega, ih _ hl hb2]
/-! ways of a function with rounds -/
theorem ev_succ {α : Type} {g : Nat → Option α} {r : α} (h : Ev (fun k => g (k + 1)) r) : Ev g r := Ev.step (fun _ => rfl) h
theorem ev_pos {α : Type} {c : Prop} [Decidable c] {f g : Nat → Option α} {r : α} (hc : c) (h : Ev f r) : Ev (fun k => if c then f k else g k) r := by
  simp only [if_pos hc]
  exact h
theorem ev_neg {α : Type} {c : Prop} [Decidable c] {f g : Nat → Option α} {r : α} (hc : ¬ c) (h : Ev g r) : Ev (fun k => if c then f k else g k) r := by
  simp only [if_neg hc]
  exact h
theorem ev_some {α β : Type} {f : Nat → α → Option β} {a : α} {r : β} (k : Ev (fun n => f n a) r) : Ev (fun n => (some a).bind (f n)) r := k
theorem ev_eq {α : Type} {g : Nat → Option α} {r s : α} (h : Ev g r) (e : r = s) : Ev g s := e ▸ h
theorem ev_now {α : Type} {r s : α} (e : r = s) : Ev (fun _ => some r) s := e ▸ Ev.now r
theorem ev_known {α : Type} {o : Option α} {r : α} (e : o = some r) : Ev (fun _ => o) r := e ▸ Ev.now r
theorem mn_le (a b : Int) : mn a b ≤ a ∧ mn a b ≤ b := by unfold mn; omega
theorem mn_nonneg {a b : Int} (ha : 0 ≤ a) (hb : 0 ≤ b) : 0 ≤ mn a b := by unfold mn; omega
/-- 's[:min(len(s), n)]' -/
theorem cut_size (s : ByteArray) (n : Nat) : (s.extract 0 (mn (s.size : Int) (n : Int)).toNat).size ≤ n := by
  rw [ByteArray.size_extract]
  have := mn_le (s.size : Int) (n : Int)
  omega
theorem size_nat (s : ByteArray) : (0 : Int) ≤ (s.size : Int) := Int.natCast_nonneg _
end Go.Proofs.YtbfjlhjfpmgplaaDoor.L
