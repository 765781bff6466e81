/- What the printed functions of octets compute, with their errors. -/
import Derived.Test.YtclffgkefbdcpaaDoorPx4
import Derived.Test.YtclffgkefbdcpaaDoorPx5
import Derived.Test.YtclffgkefbdcpaaDoorPx6
import Derived.Test.YtclffgkefbdcpaaDoorPx7
import Derived.Test.YtclffgkefbdcpaaDoorPx8
import Derived.Test.YtclffgkefbdcpaaDoorPut
import Derived.Test.YtclffgkefbdcpaaDoorGetCore
namespace Go.Proofs.YtclffgkefbdcpaaDoor.P
open Go Go.RowKit Go.Proofs.YtclffgkefbdcpaaDoorW.PrintWords Go.Proofs.YtclffgkefbdcpaaDoorW.PrintLast Go.Proofs.YtclffgkefbdcpaaDoorW.PrintMore Go.Proofs.YtclffgkefbdcpaaDoor.L

/-- What Cut answers. -/
def gcut (s : ByteArray) (i n : Int) : ByteArray × Int :=
  if i < 0 then (⟨#[]⟩, 1) else if n < 0 then (⟨#[]⟩, 1) else if (s.size : Int) < i then (⟨#[]⟩, 10) else if (s.size : Int) - i < n then (⟨#[]⟩, 10) else (s.extract i.toNat (i + n).toNat, 0)
theorem number_at (p c : Int) (h0 : 0 ≤ c) (h1 : c < 64) : octets_number.f (some (p * 64 + c)) = some c := by
  show some ((p * 64 + c) % 64) = _
  congr 1
  omega
theorem cut_eq {s : ByteArray} (hs : s.size ≤ 1000000) (i n : Int) : octets_Cut.f s i n = some (gcut s i n) := by
  unfold octets_Cut.f octets_part.f gcut
  rw [if_pos (by omega)]
  by_cases h1 : i < 0
  · rw [if_pos h1, if_pos h1, Option.bind_some]
    dsimp only
    rw [number_at _ _ (by decide) (by decide)]
    rfl
  · rw [if_neg h1, if_neg h1]
    by_cases h2 : n < 0
    · rw [if_pos h2, if_pos h2, Option.bind_some]
      dsimp only
      rw [number_at _ _ (by decide) (by decide)]
      rfl
    · rw [if_neg h2, if_neg h2]
      by_cases h3 : (s.size : Int) < i
      · rw [if_pos h3, if_pos h3, Option.bind_some]
        dsimp only
        rw [number_at _ _ (by decide) (by decide)]
        rfl
      · rw [if_neg h3, if_neg h3]
        by_cases h4 : (s.size : Int) - i < n
        · rw [if_pos h4, if_pos h4, Option.bind_some]
          dsimp only
          rw [number_at _ _ (by decide) (by decide)]
          rfl
        · rw [if_neg h4, if_neg h4]
          rfl
/-- Get of a number that is there. -/
theorem get_ev {s : ByteArray} {i n : Nat} (h1 : 1 ≤ n) (h8 : n ≤ 8) (hi : i + n ≤ s.size) (hs : s.size ≤ 1000000) : Ev (fun k => octets_Get.f k s (i : Int) (n : Int)) (((numAt (nb s) i n : Nat) : Int), 0) := by
  have hp : octets_part.f s (i : Int) (n : Int) = some (s.extract i (i + n), none) := by
    unfold octets_part.f
    rw [if_pos (by omega), if_neg (by omega), if_neg (by omega), if_neg (by omega), if_neg (by omega), Int.toNat_natCast, show ((i : Int) + (n : Int)).toNat = i + n by omega]
  have hn : nb (s.extract i (i + n)) = ((nb s).drop i).take n := by
    rw [nb_extract, List.drop_take, Nat.add_sub_cancel_left]
  unfold octets_Get.f
  refine ev_neg (by omega) ?_
  rw [decide_eq_false (by omega)]
  refine ev_succ ?_
  simp only [octets_Get.j0, Bool.false_eq_true, if_false]
  rw [hp]
  refine ev_some (ev_pos rfl ?_)
  have := get_l0_ev (s.extract i (i + n)) n h8 (by rw [ByteArray.size_extract]; omega) n 0 (Nat.zero_le _) rfl
  rw [hn] at this
  exact this
theorem get_fail {s : ByteArray} {i n : Int} {c : Int} (h1 : 1 ≤ n) (h8 : n ≤ 8) (h0 : 0 ≤ c) (hc : c < 64) (hp : octets_part.f s i n = some ((⟨#[]⟩ : ByteArray), some (i * 64 + c))) : Ev (fun k => octets_Get.f k s i n) (0, c) := by
  unfold octets_Get.f
  refine ev_neg (by omega) ?_
  rw [decide_eq_false (by omega)]
  refine ev_succ ?_
  simp only [octets_Get.j0, Bool.false_eq_true, if_false]
  rw [hp]
  refine ev_some (ev_neg (by simp) ?_)
  have := number_at i c h0 hc
  exact Ev.bind (ev_known this) (ev_now rfl)
/-- Get where there are too few bytes. -/
theorem get_short {s : ByteArray} {i n : Int} (h1 : 1 ≤ n) (h8 : n ≤ 8) (hi : 0 ≤ i) (hf : (s.size : Int) < i + n) (hs : s.size ≤ 1000000) : Ev (fun k => octets_Get.f k s i n) (0, 10) := by
  refine get_fail h1 h8 (by decide) (by decide) ?_
  unfold octets_part.f
  rw [if_pos (by omega), if_neg (by omega), if_neg (by omega)]
  by_cases h3 : (s.size : Int) < i
  · rw [if_pos h3]
  · rw [if_neg h3, if_pos (by omega)]
/-- Get ahead of the bytes. -/
theorem get_ahead {s : ByteArray} {i n : Int} (h1 : 1 ≤ n) (h8 : n ≤ 8) (hi : i < 0) (hs : s.size ≤ 1000000) : Ev (fun k => octets_Get.f k s i n) (0, 1) := by
  refine get_fail h1 h8 (by decide) (by decide) ?_
  unfold octets_part.f
  rw [if_pos (by omega), if_pos hi]
theorem a_numAt_be {p : List Nat} (q : List Nat) {n v i : Nat} (hp : p.length = i) (hv : v < 256 ^ n) : numAt (p ++ (be n v ++ q)) i n = v := by
  unfold numAt
  rw [List.drop_append_of_le_length (by rw [hp]; exact Nat.le_refl _), List.drop_of_length_le (by rw [hp]; exact Nat.le_refl _), List.nil_append, List.take_append_of_le_length (by rw [be_len]; exact Nat.le_refl _), List.take_of_length_le (by rw [be_len]; exact Nat.le_refl _), num_be]
  exact Nat.mod_eq_of_lt hv
theorem be_numAt {l : List Nat} (h : Byt l) {i n : Nat} (hl : i + n ≤ l.length) : be n (numAt l i n) = (l.drop i).take n := by
  have e := be_num ((l.drop i).take n) ((h.drop i).take n)
  have hn : ((l.drop i).take n).length = n := by
    rw [List.length_take, List.length_drop]
    omega
  rw [hn] at e
  exact e
theorem be_split (m n v : Nat) : be (m + n) v = be m (v / 256 ^ n) ++ be n v := by
  induction n generalizing v with
  | zero => simp [be]
  | succ n ih =>
    show be (m + n) (v / 256) ++ [v % 256] = _
    rw [ih, Nat.div_div_eq_div_mul, ← Nat.pow_succ', List.append_assoc]
    rfl
/-! digits -/
theorem hexD_lt {n : Nat} (h : n < 16) : hexD n < 256 := by
  unfold hexD
  split <;> omega
/-- Two digits a byte. -/
def hexN (l : List Nat) : List Nat := l.flatMap fun c => [hexD (c / 16), hexD (c % 16)]
theorem hexN_nil : hexN [] = [] := rfl
theorem hexN_cons (c : Nat) (l : List Nat) : hexN (c :: l) = hexD (c / 16) :: hexD (c % 16) :: hexN l := rfl
theorem hexN_snoc (l : List Nat) (c : Nat) : hexN (l ++ [c]) = hexN l ++ [hexD (c / 16), hexD (c % 16)] := by
  unfold hexN
  rw [List.flatMap_append]
  simp
theorem hexN_byt {l : List Nat} (h : Byt l) : Byt (hexN l) := by
  intro x hx
  unfold hexN at hx
  obtain ⟨c, hc, hx⟩ := List.mem_flatMap.1 hx
  have := h c hc
  have h1 := hexD_lt (n := c / 16) (by omega)
  have h2 := hexD_lt (n := c % 16) (by omega)
  simp at hx
  omega
theorem hexN_len (l : List Nat) : (hexN l).length = 2 * l.length := by
  induction l with
  | nil => rfl
  | cons c l ih =>
    rw [hexN_cons, List.length_cons, List.length_cons, ih, List.length_cons]
    omega
theorem hexL_nat (l : List UInt8) : (hexL l).map UInt8.toNat = hexN (l.map UInt8.toNat) := by
  induction l with
  | nil => rfl
  | cons c l ih =>
    have e : hexL (c :: l) = [UInt8.ofNat (hexD (c.toNat / 16)), UInt8.ofNat (hexD (c.toNat % 16))] ++ hexL l := rfl
    have hc := c.toNat_lt
    have h1 := hexD_lt (n := c.toNat / 16) (by omega)
    have h2 := hexD_lt (n := c.toNat % 16) (by omega)
    rw [e, List.map_append, ih]
    show _ = hexN (c.toNat :: l.map UInt8.toNat)
    rw [hexN_cons]
    simp only [List.map_cons, List.map_nil, UInt8.toNat_ofNat', List.cons_append, List.nil_append]
    rw [Nat.mod_eq_of_lt h1, Nat.mod_eq_of_lt h2]
theorem hex_eq {s : ByteArray} (hs : s.size ≤ 1000000) : octets_Hex.f s = some (bs (hexN (nb s))) := by
  unfold octets_Hex.f
  rw [if_pos (by omega)]
  congr 1
  apply nb_inj
  rw [nb_bs (hexN_byt (nb_byt s))]
  exact hexL_nat s.data.toList
/-- A digit's half byte; -1: it is none. -/
def hal (n : Nat) : Int := if 48 ≤ n ∧ n ≤ 57 then (n : Int) - 48 else if 97 ≤ n ∧ n ≤ 102 then (n : Int) - 87 else -1
theorem index_all : ∀ n < 256, Lib.indexByte digits_ (UInt8.ofNat n) = hal n := by decide +kernel
theorem index_hal (c : UInt8) : Lib.indexByte digits_ c = hal c.toNat := by
  have := index_all c.toNat c.toNat_lt
  rw [UInt8.ofNat_toNat] at this
  exact this
theorem join_all : ∀ a : Nat, a < 16 → ∀ b : Nat, b < 16 → Go.bits .or .i64 (wrap64 ((a : Int) * 16)) (b : Int) % 256 = ((a * 16 + b : Nat) : Int) := by decide +kernel
theorem hal_nat {n : Nat} (h : ¬ hal n < 0) : hal n = ((hal n).toNat : Int) ∧ (hal n).toNat < 16 := by
  unfold hal at *
  split <;> simp_all <;> omega
/-- Two digits' byte each. -/
def unhexN : List Nat → Option (List Nat)
  | a :: b :: r => if hal a < 0 ∨ hal b < 0 then none else (unhexN r).map fun l => ((hal a).toNat * 16 + (hal b).toNat) :: l
  | _ => some []
theorem unhexA_nat : ∀ (l : List UInt8) (acc : List Int), unhexA l acc = (unhexN (l.map UInt8.toNat)).map fun x => acc ++ x.map fun (y : Nat) => (y : Int)
  | [], acc => by simp [unhexA, unhexN]
  | [a], acc => by simp [unhexA, unhexN]
  | a :: b :: r, acc => by
    simp only [unhexA, List.map_cons, unhexN, index_hal]
    by_cases h1 : hal a.toNat < 0
    · rw [if_pos h1, if_pos (Or.inl h1)]
      rfl
    · rw [if_neg h1]
      by_cases h2 : hal b.toNat < 0
      · rw [if_pos h2, if_pos (Or.inr h2)]
        rfl
      · rw [if_neg h2, if_neg (by intro h; rcases h with h | h; exact h1 h; exact h2 h)]
        obtain ⟨e1, g1⟩ := hal_nat h1
        obtain ⟨e2, g2⟩ := hal_nat h2
        rw [unhexA_nat r]
        have e3 := join_all _ g1 _ g2
        rw [← e1, ← e2] at e3
        rw [e3]
        cases unhexN (r.map UInt8.toNat) with
        | none => rfl
        | some x => simp
theorem unhexN_byt : ∀ (l : List Nat) (x : List Nat), unhexN l = some x → Byt x
  | [], x, h => by
    simp only [unhexN, Option.some.injEq] at h
    rw [← h]
    exact Byt.nil
  | [_], x, h => by
    simp only [unhexN, Option.some.injEq] at h
    rw [← h]
    exact Byt.nil
  | a :: b :: r, x, h => by
    simp only [unhexN] at h
    by_cases h0 : hal a < 0 ∨ hal b < 0
    · rw [if_pos h0] at h
      cases h
    · rw [if_neg h0] at h
      obtain ⟨y, hy, rfl⟩ := Option.map_eq_some_iff.1 h
      have g1 := hal_nat (n := a) (fun h => h0 (Or.inl h))
      have g2 := hal_nat (n := b) (fun h => h0 (Or.inr h))
      exact Byt.cons (by omega) (unhexN_byt r y hy)
/-- What Unhex answers. -/
def gunhex (s : ByteArray) : ByteArray × Int := if s.size % 2 = 0 then (match unhexN (nb s) with | some l => (bs l, 0) | none => (⟨#[]⟩, 11)) else (⟨#[]⟩, 11)
theorem nums_nat {l : List Nat} (h : Byt l) : strOfNums (l.map fun (y : Nat) => (y : Int)) = bs l := by
  rw [nums_bs _ (fun x hx => by
    obtain ⟨y, hy, rfl⟩ := List.mem_map.1 hx
    have := h y hy
    omega)]
  rw [List.map_map]
  congr 1
  have : (Int.toNat ∘ fun (y : Nat) => (y : Int)) = id := by
    funext x
    simp
  rw [this, List.map_id]
theorem unhex_eq {s : ByteArray} (hs : s.size ≤ 1000000) : octets_Unhex.f s = some (gunhex s) := by
  unfold octets_Unhex.f gunhex
  rw [if_pos (by omega)]
  by_cases h : s.size % 2 = 0
  · rw [if_pos h, if_pos h, unhexA_nat]
    congr 1
    have e : s.data.toList.map UInt8.toNat = nb s := rfl
    rw [e]
    cases hu : unhexN (nb s) with
    | none => rfl
    | some l =>
      show (strOfNums ([] ++ _), (0 : Int)) = _
      rw [List.nil_append, nums_nat (unhexN_byt _ _ hu)]
  · rw [if_neg h, if_neg h]
theorem hal_hexD : ∀ n < 16, hal (hexD n) = (n : Int) := by decide
theorem unhex_hex : ∀ (l : List Nat), Byt l → unhexN (hexN l) = some l
  | [], _ => rfl
  | c :: l, h => by
    have hc : c < 256 := h c (List.mem_cons_self)
    rw [hexN_cons]
    simp only [unhexN]
    rw [hal_hexD (c / 16) (by omega), hal_hexD (c % 16) (by omega), if_neg (by omega), unhex_hex l (fun x hx => h x (List.mem_cons_of_mem _ hx))]
    show some ((((c / 16 : Nat) : Int).toNat * 16 + ((c % 16 : Nat) : Int).toNat) :: l) = some (c :: l)
    rw [Int.toNat_natCast, Int.toNat_natCast, show c / 16 * 16 + c % 16 = c by omega]
theorem octets_fixed_ev : Ev (fun k => gangwaylaw01_fixed.f k) true := by
  unfold gangwaylaw01_fixed.f
  have p1 := put_ev (v := 4660) (n := 4) (by decide) (by decide) (by decide)
  have s1 : (bs (be 4 4660)).size = 4 := by rw [bs_size, be_len]
  refine Ev.bind p1 ?_
  refine Ev.bind (get_ev (s := bs (be 4 4660)) (i := 2) (n := 2) (by decide) (by decide) (by omega) (by omega)) ?_
  refine Ev.bind (put_bad_ev (v := 256) (n := 1) (by decide)) ?_
  refine Ev.bind (get_short (s := bs (be 4 4660)) (i := 3) (n := 2) (by decide) (by decide) (by decide) (by omega) (by omega)) ?_
  have u1 : octets_Unhex.f (⟨#[48, 48, 48, 48, 49, 50, 51, 52]⟩ : ByteArray) = some ((⟨#[0, 0, 18, 52]⟩ : ByteArray), 0) := by
    rw [unhex_eq (by decide)]
    decide +kernel
  have u2 : octets_Unhex.f (⟨#[48, 65]⟩ : ByteArray) = some ((⟨#[]⟩ : ByteArray), 11) := by
    rw [unhex_eq (by decide)]
    decide +kernel
  have u3 : octets_Cut.f (⟨#[97, 98, 99]⟩ : ByteArray) 1 2 = some ((⟨#[98, 99]⟩ : ByteArray), 0) := by
    rw [cut_eq (by decide)]
    decide +kernel
  have u4 : octets_Hex.f (bs (be 4 4660)) = some (⟨#[48, 48, 48, 48, 49, 50, 51, 52]⟩ : ByteArray) := by
    rw [hex_eq (by omega)]
    decide +kernel
  rw [u1, u2, u3]
  refine ev_some (ev_some (ev_some ?_))
  dsimp only
  rw [u4]
  refine ev_pos (by decide +kernel) (ev_pos rfl (ev_pos (by decide +kernel) (ev_pos rfl (ev_pos rfl (ev_pos rfl (ev_some (ev_pos (by decide +kernel) (ev_pos (by decide +kernel) (ev_pos rfl (ev_pos rfl (ev_pos (by decide +kernel) (ev_now rfl))))))))))))
end Go.Proofs.YtclffgkefbdcpaaDoor.P
