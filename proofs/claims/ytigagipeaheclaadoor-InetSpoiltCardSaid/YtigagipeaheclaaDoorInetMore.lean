/- More of packets' bytes: what is parsed, built again; one byte that is another one; bytes that are cut short. No program in sight. -/
import Derived.Test.YtigagipeaheclaaDoorInetPlain
namespace Go.Proofs.YtigagipeaheclaaDoor.P
open Go Go.RowKit Go.Proofs.YtigagipeaheclaaDoorW.PrintWords Go.Proofs.YtigagipeaheclaaDoorW.PrintLast Go.Proofs.YtigagipeaheclaaDoorW.PrintMore Go.Proofs.YtigagipeaheclaaDoor.L

theorem i_getD_byte {l : List Nat} (h : Byt l) (i : Nat) : l.getD i 0 < 256 := by
  rw [List.getD_eq_getElem?_getD]
  by_cases hi : i < l.length
  · rw [List.getElem?_eq_getElem hi]
    exact h _ (List.getElem_mem hi)
  · rw [List.getElem?_eq_none (by omega)]
    decide
theorem i_nums {l : List Nat} (h : Byt l) : numAt l 2 2 < 65536 ∧ numAt l 4 2 < 65536 ∧ numAt l 6 2 < 65536 ∧ numAt l 8 2 < 65536 ∧ numAt l 10 2 < 65536 ∧ numAt l 12 4 < 4294967296 ∧ numAt l 16 4 < 4294967296 := by
  have e2 : (256 : Nat) ^ 2 = 65536 := by decide
  have e4 : (256 : Nat) ^ 4 = 4294967296 := by decide
  have h1 := numAt_lt h 2 2
  have h2 := numAt_lt h 4 2
  have h3 := numAt_lt h 6 2
  have h4 := numAt_lt h 8 2
  have h5 := numAt_lt h 10 2
  have h6 := numAt_lt h 12 4
  have h7 := numAt_lt h 16 4
  omega
/-- What is parsed may be. -/
theorem iread_ok {s : ByteArray} (h : iwrong s = 0) :
    iok (((nb s).getD 1 0 : Nat) : Int) ((numAt (nb s) 4 2 : Nat) : Int) ((numAt (nb s) 6 2 % 8192 : Nat) : Int) (((nb s).getD 8 0 : Nat) : Int) (((nb s).getD 9 0 : Nat) : Int) (s.extract 20 (numAt (nb s) 2 2)).size = true := by
  obtain ⟨a, _, _, d, e, f⟩ := iwrong_ok h
  obtain ⟨h1, h2, h3, h4, h5, h6, h7⟩ := i_nums (nb_byt s)
  have g1 := i_getD_byte (nb_byt s) 1
  have g8 := i_getD_byte (nb_byt s) 8
  have g9 := i_getD_byte (nb_byt s) 9
  refine iok_iff.2 ⟨by omega, by omega, by omega, by omega, by omega, ?_⟩
  rw [ByteArray.size_extract]
  omega
/-- The bytes of what is parsed, built again, but for their sum. -/
theorem iread_bytes {s : ByteArray} (h : iwrong s = 0) (sum : Nat) :
    ibytes (((nb s).getD 1 0 : Nat) : Int) ((numAt (nb s) 4 2 : Nat) : Int) (decide (numAt (nb s) 6 2 / 16384 % 2 = 1)) (decide (numAt (nb s) 6 2 / 8192 % 2 = 1)) ((numAt (nb s) 6 2 % 8192 : Nat) : Int) (((nb s).getD 8 0 : Nat) : Int) (((nb s).getD 9 0 : Nat) : Int) sum (numAt (nb s) 12 4) (numAt (nb s) 16 4) (nb (s.extract 20 (numAt (nb s) 2 2)))
      = (nb s).take 10 ++ (be 2 sum ++ ((nb s).take (numAt (nb s) 2 2)).drop 12) ∧ 20 + (nb (s.extract 20 (numAt (nb s) 2 2))).length = numAt (nb s) 2 2 := by
  obtain ⟨a, b, _, d, e, f⟩ := iwrong_ok h
  have hl := nb_len s
  have hby := nb_byt s
  have t := take20 hby (by omega) b
  have hlen : 20 + (nb (s.extract 20 (numAt (nb s) 2 2))).length = numAt (nb s) 2 2 := by
    rw [nb_len, ByteArray.size_extract]
    omega
  refine ⟨?_, hlen⟩
  unfold ibytes
  rw [hlen, Int.toNat_natCast, Int.toNat_natCast, Int.toNat_natCast, Int.toNat_natCast, Int.toNat_natCast, iflags_back e]
  have t10 : (nb s).take 10 = ifront ((nb s).getD 1 0) (numAt (nb s) 2 2) (numAt (nb s) 4 2) (numAt (nb s) 6 2) ((nb s).getD 8 0) ((nb s).getD 9 0) := by
    have e1 : (nb s).take 10 = ((nb s).take 20).take 10 := by rw [List.take_take]; rfl
    rw [e1, t]
    unfold ihead
    rw [List.take_append_of_le_length (by rw [ifront_len]; exact Nat.le_refl _), List.take_of_length_le (by rw [ifront_len]; exact Nat.le_refl _)]
  have t12 : ((nb s).take (numAt (nb s) 2 2)).drop 12 = iends (numAt (nb s) 12 4) (numAt (nb s) 16 4) ++ nb (s.extract 20 (numAt (nb s) 2 2)) := by
    have e1 : (nb s).take (numAt (nb s) 2 2) = (nb s).take 20 ++ ((nb s).take (numAt (nb s) 2 2)).drop 20 := by
      have := (List.take_append_drop 20 ((nb s).take (numAt (nb s) 2 2))).symm
      rw [List.take_take, Nat.min_eq_left d] at this
      exact this
    rw [e1, t, nb_extract]
    rw [List.drop_append_of_le_length (by rw [ihead_len]; decide)]
    rfl
  rw [t10, t12]
  unfold ihead
  simp only [List.append_assoc]
/-- The sum of what is parsed, told again: as it was, or 0 for 65535. -/
theorem iread_sum {s : ByteArray} (h : iwrong s = 0) :
    itold (((nb s).getD 1 0 : Nat) : Int) ((numAt (nb s) 4 2 : Nat) : Int) (decide (numAt (nb s) 6 2 / 16384 % 2 = 1)) (decide (numAt (nb s) 6 2 / 8192 % 2 = 1)) ((numAt (nb s) 6 2 % 8192 : Nat) : Int) (((nb s).getD 8 0 : Nat) : Int) (((nb s).getD 9 0 : Nat) : Int) (numAt (nb s) 12 4) (numAt (nb s) 16 4) (nb (s.extract 20 (numAt (nb s) 2 2))) = numAt (nb s) 10 2 ∨
    itold (((nb s).getD 1 0 : Nat) : Int) ((numAt (nb s) 4 2 : Nat) : Int) (decide (numAt (nb s) 6 2 / 16384 % 2 = 1)) (decide (numAt (nb s) 6 2 / 8192 % 2 = 1)) ((numAt (nb s) 6 2 % 8192 : Nat) : Int) (((nb s).getD 8 0 : Nat) : Int) (((nb s).getD 9 0 : Nat) : Int) (numAt (nb s) 12 4) (numAt (nb s) 16 4) (nb (s.extract 20 (numAt (nb s) 2 2))) = 0 ∧ numAt (nb s) 10 2 = 65535 := by
  obtain ⟨a, b, c, d, e, f⟩ := iwrong_ok h
  have hl := nb_len s
  have hby := nb_byt s
  obtain ⟨h1, h2, h3, h4, h5, h6, h7⟩ := i_nums hby
  have t := take20 hby (by omega) b
  have hlen := (iread_bytes h 0).2
  unfold itold
  rw [hlen, Int.toNat_natCast, Int.toNat_natCast, Int.toNat_natCast, Int.toNat_natCast, Int.toNat_natCast, iflags_back e]
  rw [t, i_fold_iff, ihead_wsum _ _ _ h1 h2 h3 h5 h6 h7] at c
  unfold isum
  rw [ihead_wsum _ _ _ h1 h2 h3 (by decide) h6 h7]
  obtain ⟨W, hW⟩ : ∃ W, W = 69 * 256 + (nb s).getD 1 0 + numAt (nb s) 2 2 + numAt (nb s) 4 2 + numAt (nb s) 6 2 + ((nb s).getD 8 0 * 256 + (nb s).getD 9 0) + 0 + (numAt (nb s) 12 4 / 65536 + numAt (nb s) 12 4 % 65536) + (numAt (nb s) 16 4 / 65536 + numAt (nb s) 16 4 % 65536) := ⟨_, rfl⟩
  have hp := i_fold_pos (n := W) (by omega)
  have hle := foldN_le W
  have := itold_arith _ _ _ _ _ (foldN W) W _ _ (numAt (nb s) 10 2) h5 hW hp hle c
  rw [hW] at this
  exact this
/-! a byte that is another one -/
theorem wsum_set : ∀ (l : List Nat) (k c : Nat), k < l.length → wsum (l.set k c) + (if k % 2 = 0 then 256 else 1) * l.getD k 0 = wsum l + (if k % 2 = 0 then 256 else 1) * c
  | [], k, c, h => absurd h (by simp)
  | [x], 0, c, _ => by simp [wsum]; omega
  | [x], k + 1, c, h => absurd h (by simp)
  | x :: y :: r, 0, c, _ => by
    simp [wsum]
    omega
  | x :: y :: r, 1, c, _ => by
    simp [wsum]
    omega
  | x :: y :: r, k + 2, c, h => by
    have ih := wsum_set r k c (by simpa using h)
    have e : (k + 2) % 2 = k % 2 := by omega
    rw [e]
    have g : (x :: y :: r).getD (k + 2) 0 = r.getD k 0 := rfl
    have s : (x :: y :: r).set (k + 2) c = x :: y :: r.set k c := rfl
    rw [g, s]
    simp only [wsum]
    omega
theorem spoilt_wrong {l : List Nat} (hb : Byt l) {k c : Nat} (hk : k < 20) (hl : 20 ≤ l.length) (hc : c < 256) (h : foldN (wsum (l.take 20)) = 65535) (h2 : foldN (wsum ((l.set k c).take 20)) = 65535) : c = l.getD k 0 := by
  have hs := wsum_set (l.take 20) k c (by rw [List.length_take]; omega)
  have e1 : (l.set k c).take 20 = (l.take 20).set k c := by rw [List.take_set]
  have e2 : (l.take 20).getD k 0 = l.getD k 0 := by
    rw [List.getD_eq_getElem?_getD, List.getD_eq_getElem?_getD, List.getElem?_take_of_lt hk]
  rw [e1] at h2
  rw [e2] at hs
  have hg := i_getD_byte hb k
  rw [i_fold_iff] at h h2
  generalize wsum (l.take 20) = a at *
  generalize wsum ((l.take 20).set k c) = b at *
  generalize l.getD k 0 = g at *
  by_cases hp : k % 2 = 0
  · rw [if_pos hp] at hs
    omega
  · rw [if_neg hp] at hs
    omega
/-! bytes that are cut short -/
theorem short_wrong {tos id off ttl proto : Int} {whole more : Bool} {sum src dst : Nat} {body : ByteArray} (hok : iok tos id off ttl proto body.size = true) (h4 : sum < 65536) (h5 : src < 4294967296) (h6 : dst < 4294967296)
    (hs : sumOk tos.toNat (20 + body.size) id.toNat (iflags off.toNat whole more) ttl.toNat proto.toNat sum src dst) {k : Nat} (hk : k < 20 + body.size) :
    iwrong ((bs (ibytes tos id whole more off ttl proto sum src dst (nb body))).extract 0 k) = 60 := by
  have hb := nb_len body
  obtain ⟨⟨a0, a1⟩, ⟨b0, b1⟩, ⟨c0, c1⟩, ⟨d0, d1⟩, ⟨o0, o1⟩, hn⟩ := iok_iff.1 hok
  have hfl := iflags_lt (off := off.toNat) (by omega) whole more
  have hby := ibytes_byt hok whole more sum src dst (nb_byt body)
  have hz : (bs (ibytes tos id whole more off ttl proto sum src dst (nb body))).size = 20 + body.size := by rw [bs_size, ibytes_len, hb]
  have hzk : ((bs (ibytes tos id whole more off ttl proto sum src dst (nb body))).extract 0 k).size = k := by
    rw [ByteArray.size_extract]
    omega
  unfold iwrong
  rw [hzk]
  by_cases h20 : k < 20
  · rw [if_pos h20]
  · rw [if_neg h20]
    have hnb : nb ((bs (ibytes tos id whole more off ttl proto sum src dst (nb body))).extract 0 k) = ihead tos.toNat (20 + body.size) id.toNat (iflags off.toNat whole more) ttl.toNat proto.toNat sum src dst ++ (nb body).take (k - 20) := by
      rw [nb_extract, nb_bs hby, List.drop_zero]
      unfold ibytes
      rw [hb, List.take_append, List.take_of_length_le (by rw [ihead_len]; omega), ihead_len]
    obtain ⟨g0, g1, g2, g3, g4, g5, g6, g7, g8, g9⟩ := ihead_tells (tos := tos.toNat) (len := 20 + body.size) (id := id.toNat) (fl := iflags off.toNat whole more) (ttl := ttl.toNat) (proto := proto.toNat) (sum := sum) (src := src) (dst := dst) ((nb body).take (k - 20)) (by omega) (by omega) (by omega) h4 h5 h6
    rw [← hnb] at g0 g2 g4
    have t20 : (nb ((bs (ibytes tos id whole more off ttl proto sum src dst (nb body))).extract 0 k)).take 20 = ihead tos.toNat (20 + body.size) id.toNat (iflags off.toNat whole more) ttl.toNat proto.toNat sum src dst := by
      rw [hnb, List.take_append_of_le_length (by rw [ihead_len]; exact Nat.le_refl _), List.take_of_length_le (by rw [ihead_len]; exact Nat.le_refl _)]
    rw [if_neg (fun h => h g0), if_neg (by rw [t20]; exact fun h => h hs), if_neg (by omega), if_neg (by omega), if_pos (by omega)]
end Go.Proofs.YtigagipeaheclaaDoor.P
