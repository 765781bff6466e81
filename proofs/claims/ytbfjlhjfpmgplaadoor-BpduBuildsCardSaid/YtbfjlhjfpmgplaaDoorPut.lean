/- What the printed octets.Put and the reference's Bytes compute. -/
import Derived.Test.YtbfjlhjfpmgplaaDoorPx6
import Derived.Test.YtbfjlhjfpmgplaaDoorPx11
import Derived.Test.YtbfjlhjfpmgplaaDoorLib
namespace Go.Proofs.YtbfjlhjfpmgplaaDoor.P
open Go Go.RowKit Go.Proofs.YtbfjlhjfpmgplaaDoorW.PrintWords Go.Proofs.YtbfjlhjfpmgplaaDoorW.PrintLast Go.Proofs.YtbfjlhjfpmgplaaDoorW.PrintMore Go.Proofs.YtbfjlhjfpmgplaaDoor.L

theorem shr_nat (v i : Nat) (hi : i ≤ 8) : shr .u64 (v : Int) (8 * (i : Int)) = ((v / 256 ^ i : Nat) : Int) := by
  unfold shr
  have e : min (8 * (i : Int)).toNat (IntKind.bits .u64) = 8 * i := by
    have h : IntKind.bits .u64 = 64 := rfl
    rw [h]
    omega
  rw [e, show (2 : Int) ^ (8 * i) = ((2 ^ (8 * i) : Nat) : Int) by norm_cast, Nat.pow_mul]
  rw [Int.natCast_ediv]
theorem put_l0_ev (v n : Nat) (hn : n ≤ 8) (d : Nat) : ∀ i : Nat, i ≤ n → n - i = d →
    Ev (fun k => octets_Put.l0 k (v : Int) (n : Int) (List.replicate (n - i) (0 : Int) ++ (be i v).map (fun (x : Nat) => (x : Int))) (n : Int) (i : Int)) (bs (be n v), 0) := by
  induction d with
  | zero =>
    intro i hi hd
    have e : i = n := by omega
    subst e
    refine ⟨1, fun k hk => ?_⟩
    obtain ⟨m, rfl⟩ : ∃ m, k = m + 1 := ⟨k - 1, by omega⟩
    simp only [octets_Put.l0]
    rw [if_neg (by omega)]
    rw [Nat.sub_self, List.replicate_zero, List.nil_append]
    have hb := be_byt i v
    rw [nums_bs _ (fun x hx => by
      obtain ⟨y, hy, rfl⟩ := List.mem_map.1 hx
      have := hb y hy
      omega)]
    rw [List.map_map]
    have : (Int.toNat ∘ fun (x : Nat) => (x : Int)) = id := by
      funext x
      simp
    rw [this, List.map_id]
  | succ d ih =>
    intro i hi hd
    have hlen : (List.replicate (n - i) (0 : Int) ++ (be i v).map (fun (x : Nat) => (x : Int))).length = n := by
      rw [List.length_append, List.length_replicate, List.length_map, be_len]
      omega
    refine Ev.step (f := fun k => octets_Put.l0 k (v : Int) (n : Int) (List.replicate (n - (i + 1)) (0 : Int) ++ (be (i + 1) v).map (fun (x : Nat) => (x : Int))) (n : Int) ((i + 1 : Nat) : Int)) (fun k => ?_) (ih (i + 1) (by omega) (by omega))
    simp only [octets_Put.l0]
    rw [if_pos (by omega), w64 (x := 8 * (i : Int)) (by omega) (by omega), if_pos (by omega), w64 (x := (n : Int) - 1) (by omega) (by omega), w64 (x := (n : Int) - 1 - (i : Int)) (by omega) (by omega), if_pos (by omega), hlen, if_pos (by omega), w64 (x := (i : Int) + 1) (by omega) (by omega)]
    rw [shr_nat v i (by omega)]
    have ei : ((n : Int) - 1 - (i : Int)).toNat = n - (i + 1) := by omega
    have es : (List.replicate (n - i) (0 : Int) ++ (be i v).map (fun (x : Nat) => (x : Int))).set (n - (i + 1)) (((v / 256 ^ i : Nat) : Int) % 256) = List.replicate (n - (i + 1)) (0 : Int) ++ (be (i + 1) v).map (fun (x : Nat) => (x : Int)) := by
      rw [be_top]
      rw [show n - i = (n - (i + 1)) + 1 by omega, List.replicate_succ', List.append_assoc]
      rw [List.set_append_right _ _ (by simp)]
      simp
    rw [ei, es]
    rfl
/-- Put of a number that goes. -/
theorem put_ev {v n : Nat} (h1 : 1 ≤ n) (h8 : n ≤ 8) (hv : v < 256 ^ n) : Ev (fun k => octets_Put.f k (v : Int) (n : Int)) (bs (be n v), 0) := by
  have hl : Ev (fun k => octets_Put.j0 k (v : Int) (n : Int) false) (bs (be n v), 0) := by
    refine Ev.step (f := fun k => octets_Put.l0 k (v : Int) (n : Int) (List.replicate n (0 : Int)) (n : Int) 0) (fun k => ?_) ?_
    · simp only [octets_Put.j0]
      rw [if_neg (by simp), if_pos (by omega), if_pos (by omega)]
      simp
    · have := put_l0_ev v n h8 n 0 (Nat.zero_le _) (by omega)
      simpa [be] using this
  unfold octets_Put.f
  by_cases h : n < 8
  · simp only [if_neg (show ¬ (n : Int) < 1 by omega), if_neg (show ¬ (n : Int) > 8 by omega), if_pos (show (n : Int) < 8 by omega), w64 (x := 8 * (n : Int)) (by omega) (by omega), if_pos (show 0 ≤ 8 * (n : Int) by omega), shr_nat v n h8, Nat.div_eq_of_lt hv]
    exact hl
  · simp only [if_neg (show ¬ (n : Int) < 1 by omega), if_neg (show ¬ (n : Int) > 8 by omega), if_neg (show ¬ (n : Int) < 8 by omega)]
    exact hl
theorem put_j0_bad (v n : Int) : Ev (fun k => octets_Put.j0 k v n true) ((⟨#[]⟩ : ByteArray), 1) := by
  refine ⟨1, fun k hk => ?_⟩
  obtain ⟨m, rfl⟩ : ∃ m, k = m + 1 := ⟨k - 1, by omega⟩
  simp only [octets_Put.j0, if_true]
/-- Put of one that does not go. -/
theorem put_bad_ev {v : Nat} {n : Int} (h : n < 1 ∨ 8 < n ∨ (n < 8 ∧ 256 ^ n.toNat ≤ v)) : Ev (fun k => octets_Put.f k (v : Int) n) ((⟨#[]⟩ : ByteArray), 1) := by
  unfold octets_Put.f
  by_cases h1 : n < 1
  · simp only [if_pos h1]
    exact put_j0_bad _ _
  · by_cases h8 : n > 8
    · simp only [if_neg h1, if_pos h8]
      exact put_j0_bad _ _
    · obtain ⟨m, rfl⟩ := Int.eq_ofNat_of_zero_le (show 0 ≤ n by omega)
      have h2 : (m : Int) < 8 ∧ 256 ^ m ≤ v := by
        rcases h with h | h | h
        · omega
        · omega
        · simpa using h
      have hd : 0 < v / 256 ^ m := Nat.div_pos h2.2 (Nat.pow_pos (by decide))
      have hne : (((v / 256 ^ m : Nat) : Int) != 0) = true := by
        rw [bne_iff_ne]
        omega
      simp only [if_neg h1, if_neg h8, if_pos h2.1, w64 (x := 8 * (m : Int)) (by omega) (by omega), if_pos (show 0 ≤ 8 * (m : Int) by omega), shr_nat v m (by omega), hne]
      exact put_j0_bad _ _

theorem bytes_l0_ev (n : Nat) (hn : n ≤ 1000) (d : Nat) : ∀ (i v : Nat) (s : ByteArray), v < 18446744073709551616 → i ≤ n → n - i = d → s.size = i →
    Ev (fun k => gangwayref01_Bytes.l0 k (v : Int) (n : Int) s (i : Int)) (bs (be d v) ++ s) := by
  induction d with
  | zero =>
    intro i v s hv hi hd hs
    refine ⟨1, fun k hk => ?_⟩
    obtain ⟨m, rfl⟩ : ∃ m, k = m + 1 := ⟨k - 1, by omega⟩
    simp only [gangwayref01_Bytes.l0]
    rw [if_neg (by omega)]
    congr 1
  | succ d ih =>
    intro i v s hv hi hd hs
    have e1 : strOfNums [((v : Int).tmod 256) % 256] = bs [v % 256] := by
      have hx : (v : Int).tmod 256 % 256 = ((v % 256 : Nat) : Int) := by
        rw [Int.tmod_eq_emod_of_nonneg (by omega)]
        omega
      rw [hx, nums_bs _ (by simp; omega), List.map_cons, List.map_nil, Int.toNat_natCast]
    refine Ev.step (f := fun k => gangwayref01_Bytes.l0 k ((v / 256 : Nat) : Int) (n : Int) (bs [v % 256] ++ s) ((i + 1 : Nat) : Int)) (fun k => ?_) ?_
    · simp only [gangwayref01_Bytes.l0, Option.bind_some]
      rw [if_pos (by omega), e1, bs_size, List.length_singleton, hs, if_pos (by omega), w64 (x := (i : Int) + 1) (by omega) (by omega)]
      rw [Int.tdiv_eq_ediv_of_nonneg (by omega), u64w (by omega) (by omega)]
      rfl
    · have := ih (i + 1) (v / 256) (bs [v % 256] ++ s) (by omega) (by omega) (by omega) (by rw [ByteArray.size_append, bs_size, hs]; simp; omega)
      rw [be, bs_append]
      rw [ByteArray.append_assoc]
      exact this
theorem bytes_ev {v n : Nat} (hn : n ≤ 1000) (hv : v < 18446744073709551616) : Ev (fun k => gangwayref01_Bytes.f k (v : Int) (n : Int)) (bs (be n v)) := by
  have := bytes_l0_ev n hn n 0 v (⟨#[]⟩ : ByteArray) hv (Nat.zero_le _) (by omega) rfl
  have e : bs (be n v) ++ (⟨#[]⟩ : ByteArray) = bs (be n v) := by
    apply ByteArray.ext
    rw [ByteArray.data_append]
    simp
  rw [e] at this
  exact this
end Go.Proofs.YtbfjlhjfpmgplaaDoor.P
