/- What the printed Head of the checksum, and the reference's functions, come to. -/
import Derived.Test.YtppaikjbafobbaaDoorPx6
import Derived.Test.YtppaikjbafobbaaDoorPx8
import Derived.Test.YtppaikjbafobbaaDoorPx9
import Derived.Test.YtppaikjbafobbaaDoorCsum
import Derived.Test.YtppaikjbafobbaaDoorPut
namespace Go.Proofs.YtppaikjbafobbaaDoor.P
open Go Go.RowKit Go.Proofs.YtppaikjbafobbaaDoorW.PrintWords Go.Proofs.YtppaikjbafobbaaDoorW.PrintLast Go.Proofs.YtppaikjbafobbaaDoorW.PrintMore Go.Proofs.YtppaikjbafobbaaDoor.L

/-- The bytes that a datagram's checksum goes over, too. -/
def headL (a b : Nat) (p n : Int) : List Nat := be 4 a ++ be 4 b ++ [0, (p % 256).toNat] ++ be 2 (n % 65536).toNat
theorem headL_byt (a b : Nat) (p n : Int) : Byt (headL a b p n) := by
  have hp := Int.emod_nonneg p (show (256 : Int) ≠ 0 by decide)
  have hp2 := Int.emod_lt_of_pos p (show (0 : Int) < 256 by decide)
  exact (((be_byt _ _).append (be_byt _ _)).append (Byt.cons (by decide) (Byt.cons (by omega) Byt.nil))).append (be_byt _ _)
theorem headL_len (a b : Nat) (p n : Int) : (headL a b p n).length = 12 := by simp [headL, be_len]
theorem head_f_ev {a b : Nat} (ha : a < 4294967296) (hb : b < 4294967296) (p n : Int) : Ev (fun k => csum_Head.f k (a : Int) (b : Int) p n) (bs (headL a b p n)) := by
  have hn := Int.emod_nonneg n (show (65536 : Int) ≠ 0 by decide)
  have hn2 := Int.emod_lt_of_pos n (show (0 : Int) < 65536 by decide)
  have hp := Int.emod_nonneg p (show (256 : Int) ≠ 0 by decide)
  have hp2 := Int.emod_lt_of_pos p (show (0 : Int) < 256 by decide)
  have es : strOfNums [0, p % 256] = bs [0, (p % 256).toNat] := by
    rw [nums_bs _ (by simp; omega)]
    rfl
  unfold csum_Head.f
  rw [u64w (x := (a : Int)) (by omega) (by omega), u64w (x := (b : Int)) (by omega) (by omega), mask16, u64w (x := n % 65536) (by omega) (by omega)]
  rw [show n % 65536 = (((n % 65536).toNat : Nat) : Int) by omega]
  refine Ev.bind (put_ev (v := a) (n := 4) (by decide) (by decide) (by omega)) ?_
  refine Ev.bind (put_ev (v := b) (n := 4) (by decide) (by decide) (by omega)) ?_
  refine Ev.bind (put_ev (v := (n % 65536).toNat) (n := 2) (by decide) (by decide) (by omega)) ?_
  refine ev_pos (by simp [bs_size, be_len]) ?_
  refine ev_some ?_
  rw [es]
  refine ev_pos (by simp [ByteArray.size_append, bs_size, be_len]) ?_
  refine ev_pos (by simp [ByteArray.size_append, bs_size, be_len]) ?_
  refine ev_now ?_
  unfold headL
  rw [bs_append, bs_append, bs_append]
theorem fold_ref (n : Nat) (hn : n < 4611686018427387904) : gangwayref03_Fold.f (n : Int) = some ((foldN n : Nat) : Int) := by
  unfold gangwayref03_Fold.f foldN
  by_cases h : n = 0
  · rw [if_pos (by omega), if_pos h]
    rfl
  · rw [if_neg (by omega), if_neg h]
    congr 1
    rw [w64 (x := (n : Int) - 1) (by omega) (by omega), Int.tmod_eq_emod_of_nonneg (by omega), w64 (by omega) (by omega)]
    omega
theorem total_ref_ev (s : ByteArray) (hs : s.size ≤ 1099511627776) (d : Nat) : ∀ i : Nat, i ≤ s.size → s.size - i = d →
    Ev (fun k => gangwayref03_Total.l0 k s ((wsum ((nb s).take i) : Nat) : Int) (i : Int)) ((wsum (nb s) : Nat) : Int) := by
  have hl := nb_len s
  have hby := nb_byt s
  induction d with
  | zero =>
    intro i hi hd
    refine ⟨1, fun k hk => ?_⟩
    obtain ⟨m, rfl⟩ : ∃ m, k = m + 1 := ⟨k - 1, by omega⟩
    simp only [gangwayref03_Total.l0]
    rw [if_neg (by omega), List.take_of_length_le (by omega)]
  | succ d ih =>
    intro i hi hd
    have hlt : i < (nb s).length := by omega
    have ht : (nb s).take (i + 1) = (nb s).take i ++ [(nb s).getD i 0] := by
      rw [List.take_succ_eq_append_getElem hlt]
      simp [List.getD_eq_getElem?_getD, List.getElem?_eq_getElem hlt]
    have hw := wsum_le (hby.take i)
    have hlen : ((nb s).take i).length = i := by rw [List.length_take]; omega
    have hb1 := getD_byt hby i
    have hstep := ih (i + 1) (by omega) (by omega)
    rw [ht, wsum_snoc, hlen] at hstep
    refine Ev.step (f := fun k => gangwayref03_Total.l0 k s (((wsum ((nb s).take i) + if i % 2 = 0 then 256 * (nb s).getD i 0 else (nb s).getD i 0) : Nat) : Int) ((i + 1 : Nat) : Int)) (fun k => ?_) hstep
    simp only [gangwayref03_Total.l0]
    rw [if_pos (by omega), bt_nb, Int.toNat_natCast, Int.tmod_eq_emod_of_nonneg (by omega)]
    rw [w64 (x := (((nb s).getD i 0 : Nat) : Int)) (by omega) (by omega), w64 (x := 256 * (((nb s).getD i 0 : Nat) : Int)) (by omega) (by omega), w64 (x := (i : Int) + 1) (by omega) (by omega)]
    by_cases he : i % 2 = 0
    · rw [if_pos (by omega), if_pos (by omega), if_pos he, w64 (by omega) (by omega)]
      simp
    · rw [if_neg (by omega), if_pos (by omega), if_neg he, w64 (by omega) (by omega)]
      simp
theorem total_ref_f_ev {s : ByteArray} (hs : s.size ≤ 1099511627776) : Ev (fun k => gangwayref03_Total.f k s) ((wsum (nb s) : Nat) : Int) := by
  have := total_ref_ev s hs s.size 0 (Nat.zero_le _) rfl
  show Ev (fun k => gangwayref03_Total.l0 k s 0 0) _
  simpa [wsum] using this
theorem of_ref_ev {s : ByteArray} (hs : s.size ≤ 1099511627776) : Ev (fun k => gangwayref03_Of.f k s) ((csumN (nb s) : Nat) : Int) := by
  unfold gangwayref03_Of.f
  have hw := wsum_le (nb_byt s)
  rw [nb_len] at hw
  have hf := foldN_le (wsum (nb s))
  refine Ev.bind (total_ref_f_ev hs) ?_
  rw [fold_ref _ (by omega)]
  refine ev_some (ev_now ?_)
  unfold csumN
  rw [w64 (by omega) (by omega)]
  omega
theorem low_ref (n : Int) : gangwayref03_low.f n = some (n % 65536) := by
  unfold gangwayref03_low.f
  congr 1
  have h := @Int.tmod_eq_emod n 65536
  have h2 : (n.tmod 65536) = if 0 ≤ n then n % 65536 else if n % 65536 = 0 then 0 else n % 65536 - 65536 := by
    rw [h]
    by_cases h0 : 0 ≤ n
    · rw [if_pos h0, if_pos (Or.inl h0)]
      omega
    · rw [if_neg h0]
      by_cases hd : n % 65536 = 0
      · rw [if_pos hd, if_pos (Or.inr (Int.dvd_of_emod_eq_zero hd))]
        omega
      · rw [if_neg hd, if_neg (by
          rintro (h3 | h3)
          · exact h0 h3
          · exact hd (Int.emod_eq_zero_of_dvd h3))]
        rfl
  have hr1 := Int.emod_nonneg n (show (65536 : Int) ≠ 0 by decide)
  have hr2 := Int.emod_lt_of_pos n (show (0 : Int) < 65536 by decide)
  generalize n % 65536 = r at *
  rw [h2]
  split
  · rw [w64 (by omega) (by omega), Int.tmod_eq_emod_of_nonneg (by omega)]
    omega
  · split
    · rw [w64 (by omega) (by omega), Int.tmod_eq_emod_of_nonneg (by omega)]
      omega
    · rw [w64 (by omega) (by omega), Int.tmod_eq_emod_of_nonneg (by omega)]
      omega
theorem headR_ev {a b : Nat} (ha : a < 4294967296) (hb : b < 4294967296) (p n : Int) : Ev (fun k => gangwayref03_Head.f k (a : Int) (b : Int) p n) (bs (headL a b p n)) := by
  have hn := Int.emod_nonneg n (show (65536 : Int) ≠ 0 by decide)
  have hn2 := Int.emod_lt_of_pos n (show (0 : Int) < 65536 by decide)
  have hp := Int.emod_nonneg p (show (256 : Int) ≠ 0 by decide)
  have hp2 := Int.emod_lt_of_pos p (show (0 : Int) < 256 by decide)
  unfold gangwayref03_Head.f
  rw [u64w (x := (a : Int)) (by omega) (by omega), u64w (x := (b : Int)) (by omega) (by omega), show p % 256 = (((p % 256).toNat : Nat) : Int) by omega, low_ref n]
  refine Ev.bind (bytes_ev (n := 4) (by decide) (by omega)) ?_
  refine Ev.bind (bytes_ev (n := 4) (by decide) (by omega)) ?_
  refine ev_pos (by simp [bs_size, be_len]) ?_
  refine Ev.bind (bytes_ev (n := 2) (by decide) (by omega)) ?_
  refine ev_pos (by simp [ByteArray.size_append, bs_size, be_len]) ?_
  refine ev_some ?_
  rw [u64w (x := n % 65536) (by omega) (by omega), show n % 65536 = (((n % 65536).toNat : Nat) : Int) by omega]
  refine Ev.bind (bytes_ev (n := 2) (by decide) (by omega)) ?_
  refine ev_pos (by simp [ByteArray.size_append, bs_size, be_len]) ?_
  refine ev_now ?_
  have e : be 2 (p % 256).toNat = [0, (p % 256).toNat] := by
    simp only [be, List.nil_append, List.cons_append]
    rw [Nat.div_eq_of_lt (show (p % 256).toNat < 256 by omega), Nat.mod_eq_of_lt (show (p % 256).toNat < 256 by omega)]
  rw [e]
  unfold headL
  rw [bs_append, bs_append, bs_append]
end Go.Proofs.YtppaikjbafobbaaDoor.P
