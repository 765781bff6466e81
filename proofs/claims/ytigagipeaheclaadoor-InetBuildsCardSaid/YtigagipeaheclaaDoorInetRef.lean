/- What the document's answer for inet computes. -/
import Derived.Test.YtigagipeaheclaaDoorPx8
import Derived.Test.YtigagipeaheclaaDoorPx9
import Derived.Test.YtigagipeaheclaaDoorPx11
import Derived.Test.YtigagipeaheclaaDoorPx20
import Derived.Test.YtigagipeaheclaaDoorPx21
import Derived.Test.YtigagipeaheclaaDoorPx23
import Derived.Test.YtigagipeaheclaaDoorInetPlain
namespace Go.Proofs.YtigagipeaheclaaDoor.P
set_option linter.unusedSimpArgs false
set_option linter.unusedVariables false
open Go Go.RowKit Go.Proofs.YtigagipeaheclaaDoorW.PrintWords Go.Proofs.YtigagipeaheclaaDoorW.PrintLast Go.Proofs.YtigagipeaheclaaDoorW.PrintMore Go.Proofs.YtigagipeaheclaaDoor.L

theorem richeck_eq (tos id : Int) (whole more : Bool) (off ttl proto src dst : Int) (body : ByteArray) : gangwayref06_Check.f tos id whole more off ttl proto src dst body = some (if iok tos id off ttl proto body.size = true then 0 else 61) := by
  unfold gangwayref06_Check.f
  by_cases hok : iok tos id off ttl proto body.size = true
  · obtain ⟨a, b, c, d, e, f⟩ := iok_iff.1 hok
    rw [if_pos hok, if_pos (by omega), if_pos (by omega), if_pos (by omega), if_pos (by omega), if_pos (by omega), if_neg (by omega)]
  · rw [if_neg hok]
    have hn : ¬ ((0 ≤ tos ∧ tos < 256) ∧ (0 ≤ ttl ∧ ttl < 256) ∧ (0 ≤ proto ∧ proto < 256) ∧ (0 ≤ id ∧ id < 65536) ∧ (0 ≤ off ∧ off < 8192) ∧ body.size ≤ 65515) := fun h => hok (iok_iff.2 h)
    by_cases h1 : tos / 256 = 0
    · rw [if_pos h1]
      by_cases h2 : ttl / 256 = 0
      · rw [if_pos h2]
        by_cases h3 : proto / 256 = 0
        · rw [if_pos h3]
          by_cases h4 : id / 65536 = 0
          · rw [if_pos h4]
            by_cases h5 : off / 8192 = 0
            · rw [if_pos h5, if_pos (by omega)]
            · rw [if_neg h5]
          · rw [if_neg h4]
        · rw [if_neg h3]
      · rw [if_neg h2]
    · rw [if_neg h1]
theorem u64n {n : Nat} (h : n ≤ 18446744073709551615) : IntKind.u64.wrap ((n : Nat) : Int) = ((n : Nat) : Int) := u64w (by omega) (by omega)
theorem be_one {n : Nat} (h : n < 256) : be 1 n = [n] := by
  simp only [be, List.nil_append]
  rw [Nat.mod_eq_of_lt h]
theorem rhead_j1 {tos id off ttl proto : Nat} {body : ByteArray} (hok : iok (tos : Int) (id : Int) (off : Int) (ttl : Int) (proto : Int) body.size = true) {fl sum src dst : Nat} (hfl : fl < 65536) (hsum : sum < 65536) (hs : src < 4294967296) (hd : dst < 4294967296) (w m : Bool) :
    Ev (fun k => gangwayref06_Head.j1 k (sum : Int) (fl : Int) (tos : Int) (id : Int) w m (off : Int) (ttl : Int) (proto : Int) (src : Int) (dst : Int) body) (bs (ihead tos (20 + body.size) id fl ttl proto sum src dst)) := by
  obtain ⟨⟨a0, a1⟩, ⟨b0, b1⟩, ⟨c0, c1⟩, ⟨d0, d1⟩, ⟨o0, o1⟩, hn⟩ := iok_iff.1 hok
  have zb : ∀ n v : Nat, (bs (be n v)).size = n := fun n v => by rw [bs_size, be_len]
  have z69 : (⟨#[69]⟩ : ByteArray).size = 1 := rfl
  refine ev_succ ?_
  simp only [gangwayref06_Head.j1]
  have l1 : tos ≤ 18446744073709551615 := by omega
  have l2 : (20 + body.size) ≤ 18446744073709551615 := by omega
  have l3 : id ≤ 18446744073709551615 := by omega
  have l4 : fl ≤ 18446744073709551615 := by omega
  have l5 : ttl ≤ 18446744073709551615 := by omega
  have l6 : proto ≤ 18446744073709551615 := by omega
  have l7 : sum ≤ 18446744073709551615 := by omega
  have l8 : src ≤ 18446744073709551615 := by omega
  have l9 : dst ≤ 18446744073709551615 := by omega
  have hlen : wrap64 (20 + (body.size : Int)) = ((20 + body.size : Nat) : Int) := (w64 (by omega) (by omega)).trans (by omega)
  have v1 := u64n l1
  have v2 := u64n l2
  have v3 := u64n l3
  have v4 := u64n l4
  have v5 := u64n l5
  have v6 := u64n l6
  have v7 := u64n l7
  have v8 := u64n l8
  have v9 := u64n l9
  simp only [hlen, v1, v2, v3, v4, v5, v6, v7, v8, v9]
  clear v1 v2 v3 v4 v5 v6 v7 v8 v9 hlen l1 l2 l3 l4 l5 l6 l7 l8 l9
  refine Ev.bind (bytes_ev (n := 1) (by decide) (by omega)) (ev_pos (by rw [zb]; decide) ?_)
  refine Ev.bind (bytes_ev (n := 2) (by decide) (by omega)) (ev_pos (by simp only [ByteArray.size_append, z69, zb]; decide) ?_)
  refine Ev.bind (bytes_ev (n := 2) (by decide) (by omega)) (ev_pos (by simp only [ByteArray.size_append, z69, zb]; decide) ?_)
  refine Ev.bind (bytes_ev (n := 2) (by decide) (by omega)) (ev_pos (by simp only [ByteArray.size_append, z69, zb]; decide) ?_)
  refine Ev.bind (bytes_ev (n := 1) (by decide) (by omega)) (ev_pos (by simp only [ByteArray.size_append, z69, zb]; decide) ?_)
  refine Ev.bind (bytes_ev (n := 1) (by decide) (by omega)) (ev_pos (by simp only [ByteArray.size_append, z69, zb]; decide) ?_)
  refine Ev.bind (bytes_ev (n := 2) (by decide) (by omega)) (ev_pos (by simp only [ByteArray.size_append, z69, zb]; decide) ?_)
  refine Ev.bind (bytes_ev (n := 4) (by decide) (by omega)) (ev_pos (by simp only [ByteArray.size_append, z69, zb]; decide) ?_)
  refine Ev.bind (bytes_ev (n := 4) (by decide) (by omega)) (ev_pos (by simp only [ByteArray.size_append, z69, zb]; decide) (ev_now ?_))
  apply nb_inj
  rw [nb_bs (ihead_byt _ _ _ _ _ _ (by omega) (by omega) (by omega))]
  simp only [nb_append, nb_bs (be_byt _ _)]
  rw [be_one (show tos < 256 by omega), be_one (show ttl < 256 by omega), be_one (show proto < 256 by omega)]
  unfold ihead ifront iends
  simp only [List.append_assoc]
  rfl
theorem rhead_ev {tos id off ttl proto : Nat} {body : ByteArray} (hok : iok (tos : Int) (id : Int) (off : Int) (ttl : Int) (proto : Int) body.size = true) {sum src dst : Nat} (hsum : sum < 65536) (hs : src < 4294967296) (hd : dst < 4294967296) (w m : Bool) :
    Ev (fun k => gangwayref06_Head.f k (tos : Int) (id : Int) w m (off : Int) (ttl : Int) (proto : Int) (src : Int) (dst : Int) body (sum : Int)) (bs (ihead tos (20 + body.size) id (iflags off w m) ttl proto sum src dst)) := by
  obtain ⟨_, _, _, _, ⟨o0, o1⟩, _⟩ := iok_iff.1 hok
  have hj : ∀ fl : Nat, fl < 8192 + 16384 → Ev (fun k => gangwayref06_Head.j0 k (sum : Int) (fl : Int) (tos : Int) (id : Int) w m (off : Int) (ttl : Int) (proto : Int) (src : Int) (dst : Int) body) (bs (ihead tos (20 + body.size) id (fl + if m = true then 8192 else 0) ttl proto sum src dst)) := by
    intro fl hfl
    have hz : fl + 8192 < 65536 := by omega
    have hz0 : fl < 65536 := by omega
    have e : wrap64 ((fl : Int) + 8192) = ((fl + 8192 : Nat) : Int) := (w64 (by omega) (by omega)).trans (by omega)
    refine ev_succ ?_
    simp only [gangwayref06_Head.j0]
    by_cases hm : m = true
    · rw [if_pos hm]
      refine ev_pos hm ?_
      rw [e]
      exact rhead_j1 hok hz hsum hs hd w m
    · rw [if_neg hm]
      exact ev_neg hm (rhead_j1 hok hz0 hsum hs hd w m)
  have hf : iflags off w m = (off + if w = true then 16384 else 0) + if m = true then 8192 else 0 := rfl
  rw [hf]
  unfold gangwayref06_Head.f
  have hz : off + 16384 < 8192 + 16384 := by omega
  have hz0 : off < 8192 + 16384 := by omega
  have e : wrap64 ((off : Int) + 16384) = ((off + 16384 : Nat) : Int) := (w64 (by omega) (by omega)).trans (by omega)
  by_cases hw : w = true
  · have h2 : (if w = true then 16384 else 0 : Nat) = 16384 := if_pos hw
    rw [h2]
    refine ev_pos hw ?_
    rw [e]
    exact hj (off + 16384) hz
  · have h2 : (if w = true then 16384 else 0 : Nat) = 0 := if_neg hw
    rw [h2, Nat.add_zero]
    refine ev_neg hw ?_
    exact hj off hz0
theorem ribuild_ev {src dst : Nat} (hs : src < 4294967296) (hd : dst < 4294967296) (tos id : Int) (whole more : Bool) (off ttl proto : Int) (body : ByteArray) :
    Ev (fun k => gangwayref06_Build.f k tos id whole more off ttl proto (src : Int) (dst : Int) body) (ibuild tos id whole more off ttl proto src dst body) := by
  unfold gangwayref06_Build.f ibuild
  rw [richeck_eq]
  by_cases hok : iok tos id off ttl proto body.size = true
  · rw [if_pos hok, if_pos hok]
    have hok' := hok
    obtain ⟨⟨a0, a1⟩, ⟨b0, b1⟩, ⟨c0, c1⟩, ⟨d0, d1⟩, ⟨o0, o1⟩, hn⟩ := iok_iff.1 hok
    obtain ⟨tos, rfl⟩ := Int.eq_ofNat_of_zero_le a0
    obtain ⟨ttl, rfl⟩ := Int.eq_ofNat_of_zero_le b0
    obtain ⟨proto, rfl⟩ := Int.eq_ofNat_of_zero_le c0
    obtain ⟨id, rfl⟩ := Int.eq_ofNat_of_zero_le d0
    obtain ⟨off, rfl⟩ := Int.eq_ofNat_of_zero_le o0
    have hb := nb_len body
    refine ev_some (ev_pos rfl ?_)
    have h0 := rhead_ev hok (sum := 0) (by decide) hs hd whole more
    refine Ev.bind h0 ?_
    have hof := of_ref_ev (s := bs (ihead tos (20 + body.size) id (iflags off whole more) ttl proto 0 src dst)) (by rw [bs_size, ihead_len]; decide)
    rw [nb_bs (ihead_byt _ _ _ _ _ _ (by omega) (by omega) (by omega))] at hof
    have hsum : csumN (ihead tos (20 + body.size) id (iflags off whole more) ttl proto 0 src dst) = isum tos (20 + body.size) id (iflags off whole more) ttl proto src dst := rfl
    rw [hsum] at hof
    have hlt := isum_lt tos (20 + body.size) id (iflags off whole more) ttl proto src dst
    refine Ev.bind hof (Ev.bind (rhead_ev hok hlt hs hd whole more) (ev_pos (by rw [bs_size, ihead_len]; omega) (ev_now ?_)))
    unfold ibytes itold
    simp only [Int.toNat_natCast]
    rw [hb, bs_append, bs_nb]
  · rw [if_neg hok, if_neg hok]
    exact ev_some (ev_neg (by decide) (ev_now rfl))
theorem one_at {l : List Nat} {i : Nat} (h : i < l.length) : numAt l i 1 = l.getD i 0 := by
  unfold numAt
  rw [i_getD_at h]
  simp [num]
theorem rnum_ev {s : ByteArray} {i n : Nat} (hn : n ≤ 4) (h : i + n ≤ s.size) : Ev (fun k => gangwayref06_num.f k s (i : Int) ((i + n : Nat) : Int)) ((numAt (nb s) i n : Nat) : Int) := by
  have hl := nb_len s
  unfold gangwayref06_num.f
  refine ev_pos (by omega) (ev_pos (by omega) (ev_pos (by omega) ?_))
  rw [Int.toNat_natCast, Int.toNat_natCast]
  have hx := num_ev (t := s.extract i (i + n)) (by rw [ByteArray.size_extract]; omega)
  rw [nb_extract, List.drop_take, Nat.add_sub_cancel_left] at hx
  have hlt := numAt_lt (nb_byt s) i n
  have h4 : 256 ^ n ≤ 256 ^ 4 := Nat.pow_le_pow_right (by decide) hn
  have e4 : (256 : Nat) ^ 4 = 4294967296 := by decide
  exact Ev.bind hx (ev_now (w64 (by show -9223372036854775808 ≤ ((numAt (nb s) i n : Nat) : Int); omega) (by show ((numAt (nb s) i n : Nat) : Int) ≤ 9223372036854775807; omega)))
theorem riparse_j0 {s : ByteArray} (hs : s.size ≤ 1000000) (h20 : 20 ≤ s.size) (hn : 20 ≤ numAt (nb s) 2 2) (hf : numAt (nb s) 6 2 < 32768) :
    Ev (fun k => gangwayref06_Parse.j0 k s ((numAt (nb s) 2 2 : Nat) : Int) ((numAt (nb s) 6 2 : Nat) : Int) false) (if s.size < numAt (nb s) 2 2 then ibad 60 else iread s) := by
  have hl := nb_len s
  refine ev_succ ?_
  simp only [gangwayref06_Parse.j0]
  refine ev_neg (by decide) ?_
  by_cases hz : s.size < numAt (nb s) 2 2
  · rw [if_pos hz]
    exact ev_pos (by omega) (ev_now rfl)
  · rw [if_neg hz]
    refine ev_neg (by omega) ?_
    refine Ev.bind (rnum_ev (i := 1) (n := 1) (by decide) (by omega)) (Ev.bind (rnum_ev (i := 4) (n := 2) (by decide) (by omega)) (Ev.bind (rnum_ev (i := 8) (n := 1) (by decide) (by omega)) (Ev.bind (rnum_ev (i := 9) (n := 1) (by decide) (by omega)) (Ev.bind (rnum_ev (i := 12) (n := 4) (by decide) (by omega)) (Ev.bind (rnum_ev (i := 16) (n := 4) (by decide) (by omega)) ?_)))))
    refine ev_pos (by omega) (ev_pos (by omega) (ev_now ?_))
    have l1 := numAt_lt (nb_byt s) 12 4
    have l2 := numAt_lt (nb_byt s) 16 4
    have e4 : (256 : Nat) ^ 4 = 4294967296 := by decide
    unfold iread
    rw [one_at (by omega), one_at (by omega), one_at (by omega)]
    have m1 : ((numAt (nb s) 12 4 : Nat) : Int) % 4294967296 = ((numAt (nb s) 12 4 : Nat) : Int) := by omega
    have m2 : ((numAt (nb s) 16 4 : Nat) : Int) % 4294967296 = ((numAt (nb s) 16 4 : Nat) : Int) := by omega
    have m3 : ((numAt (nb s) 6 2 : Nat) : Int).tmod 8192 = ((numAt (nb s) 6 2 % 8192 : Nat) : Int) := by
      rw [Int.tmod_eq_emod_of_nonneg (by omega)]
      omega
    have m4 : (wrap64 (((numAt (nb s) 6 2 : Nat) : Int).tdiv 16384) == 1) = decide (numAt (nb s) 6 2 / 16384 % 2 = 1) := by
      rw [Int.tdiv_eq_ediv_of_nonneg (by omega), w64 (by omega) (by omega), Bool.eq_iff_iff, beq_iff_eq, decide_eq_true_eq]
      omega
    have m5 : ((wrap64 (((numAt (nb s) 6 2 : Nat) : Int).tdiv 8192)).tmod 2 == 1) = decide (numAt (nb s) 6 2 / 8192 % 2 = 1) := by
      rw [Int.tdiv_eq_ediv_of_nonneg (by omega), w64 (by omega) (by omega), Int.tmod_eq_emod_of_nonneg (by omega), Bool.eq_iff_iff, beq_iff_eq, decide_eq_true_eq]
      omega
    rw [m1, m2, m3, m4, m5, Int.toNat_natCast]
theorem riparse_ev {s : ByteArray} (hs : s.size ≤ 1000000) : Ev (fun k => gangwayref06_Parse.f k s) (iparse s) := by
  have hl := nb_len s
  have bad : ∀ c : Int, iwrong s = c → c ≠ 0 → iparse s = ibad c := fun c h hc => by
    unfold iparse
    rw [if_neg (by omega), h]
  unfold gangwayref06_Parse.f
  by_cases h1 : s.size < 20
  · have hw : iwrong s = 60 := by
      unfold iwrong
      rw [if_pos h1]
    rw [bad 60 hw (by decide)]
    exact ev_pos (by omega) (ev_now rfl)
  have b0 : bt s 0 = (((nb s).getD 0 0 : Nat) : Int) := bt_at_nb s 0
  rw [b0]
  refine ev_neg (by omega) (ev_pos (by omega) ?_)
  by_cases h2 : (nb s).getD 0 0 ≠ 69
  · have hw : iwrong s = 61 := by
      unfold iwrong
      rw [if_neg h1, if_pos h2]
    rw [bad 61 hw (by decide)]
    exact ev_neg (by omega) (ev_now rfl)
  refine ev_pos (by omega) (ev_pos (by decide) (ev_pos (by omega) ?_))
  have hof := of_ref_ev (s := s.extract 0 20) (by rw [ByteArray.size_extract]; omega)
  rw [nb_extract, List.drop_zero] at hof
  have hle := foldN_le (wsum ((nb s).take 20))
  refine Ev.bind hof ?_
  by_cases h3 : foldN (wsum ((nb s).take 20)) ≠ 65535
  · have hw : iwrong s = 62 := by
      unfold iwrong
      rw [if_neg h1, if_neg h2, if_pos h3]
    rw [bad 62 hw (by decide)]
    exact ev_neg (by unfold csumN; omega) (ev_now rfl)
  refine ev_pos (by unfold csumN; omega) ?_
  have hn := numAt_lt (nb_byt s) 2 2
  have hf := numAt_lt (nb_byt s) 6 2
  have e2 : (256 : Nat) ^ 2 = 65536 := by decide
  refine Ev.bind (rnum_ev (i := 2) (n := 2) (by decide) (by omega)) (Ev.bind (rnum_ev (i := 6) (n := 2) (by decide) (by omega)) ?_)
  by_cases h4 : numAt (nb s) 2 2 < 20
  · have hw : iwrong s = 61 := by
      unfold iwrong
      rw [if_neg h1, if_neg h2, if_neg h3, if_pos h4]
    rw [bad 61 hw (by decide)]
    refine ev_pos (by omega) (ev_succ ?_)
    simp only [gangwayref06_Parse.j0]
    exact ev_pos trivial (ev_now rfl)
  refine ev_neg (by omega) ?_
  by_cases h5 : 32768 ≤ numAt (nb s) 6 2
  · have hw : iwrong s = 61 := by
      unfold iwrong
      rw [if_neg h1, if_neg h2, if_neg h3, if_neg h4, if_pos h5]
    rw [bad 61 hw (by decide), decide_eq_true (show ((numAt (nb s) 6 2 : Nat) : Int) ≥ 32768 by omega)]
    refine ev_succ ?_
    simp only [gangwayref06_Parse.j0]
    exact ev_pos trivial (ev_now rfl)
  rw [decide_eq_false (show ¬ ((numAt (nb s) 6 2 : Nat) : Int) ≥ 32768 by omega)]
  have hj := riparse_j0 (s := s) hs (by omega) (by omega) (by omega)
  by_cases h6 : s.size < numAt (nb s) 2 2
  · have hw : iwrong s = 60 := by
      unfold iwrong
      rw [if_neg h1, if_neg h2, if_neg h3, if_neg h4, if_neg h5, if_pos h6]
    rw [bad 60 hw (by decide)]
    rw [if_pos h6] at hj
    exact hj
  have hw : iwrong s = 0 := by
    unfold iwrong
    rw [if_neg h1, if_neg h2, if_neg h3, if_neg h4, if_neg h5, if_neg h6]
  rw [if_neg h6] at hj
  have e : iparse s = iread s := if_pos hw
  rw [e]
  exact hj
theorem riolder_ev {s : ByteArray} (hs : s.size ≤ 1000000) : Ev (fun k => gangwayref06_Older.f k s) (iolder s) := by
  unfold gangwayref06_Older.f iolder
  refine Ev.bind (riparse_ev hs) ?_
  have hl := nb_len s
  by_cases hw : iwrong s = 0
  · obtain ⟨a, b, c, d, e, f⟩ := iwrong_ok hw
    have e1 : iparse s = iread s := if_pos hw
    rw [e1, if_pos hw]
    refine ev_pos rfl ?_
    by_cases h8 : (nb s).getD 8 0 = 0
    · rw [if_pos h8]
      refine ev_pos ?_ (ev_now rfl)
      show (((nb s).getD 8 0 : Nat) : Int) = 0
      omega
    · rw [if_neg h8]
      refine ev_neg (by show ¬ (((nb s).getD 8 0 : Nat) : Int) = 0; omega) ?_
      have l8 := numAt_lt (nb_byt s) 8 2
      have l10 := numAt_lt (nb_byt s) 10 2
      have e2 : (256 : Nat) ^ 2 = 65536 := by decide
      have h256 : 256 ≤ numAt (nb s) 8 2 := by
        rw [two_at (by omega)]
        omega
      refine Ev.bind (rnum_ev (i := 8) (n := 2) (by decide) (by omega)) (Ev.bind (rnum_ev (i := 10) (n := 2) (by decide) (by omega)) ?_)
      have q1 : wrap64 (((numAt (nb s) 8 2 : Nat) : Int) - 256) = ((numAt (nb s) 8 2 - 256 : Nat) : Int) := by
        rw [w64 (by omega) (by omega)]
        omega
      rw [q1]
      have zb : ∀ n v : Nat, (bs (be n v)).size = n := fun n v => by rw [bs_size, be_len]
      have zs : (s.extract 0 8).size = 8 := by
        rw [ByteArray.size_extract]
        omega
      have hp := patch_ref ((numAt (nb s) 10 2 : Nat) : Int) ((numAt (nb s) 8 2 : Nat) : Int) ((numAt (nb s) 8 2 - 256 : Nat) : Int)
      have m1 : (((numAt (nb s) 10 2 : Nat) : Int) % 65536).toNat = numAt (nb s) 10 2 := by omega
      have m2 : (((numAt (nb s) 8 2 : Nat) : Int) % 65536).toNat = numAt (nb s) 8 2 := by omega
      have m3 : (((numAt (nb s) 8 2 - 256 : Nat) : Int) % 65536).toNat = numAt (nb s) 8 2 - 256 := by omega
      rw [m1, m2, m3] at hp
      have hip : (65535 - foldN (65535 - numAt (nb s) 10 2 + 65535 - numAt (nb s) 8 2 + (numAt (nb s) 8 2 - 256)) : Nat) = ipatch (numAt (nb s) 10 2) (numAt (nb s) 8 2) := by
        unfold ipatch
        rfl
      rw [hip] at hp
      have hlt := ipatch_lt (numAt (nb s) 10 2) (numAt (nb s) 8 2)
      refine Ev.bind (ev_known hp) (ev_pos (by decide) (ev_pos (by omega) ?_))
      rw [u64w (x := ((numAt (nb s) 8 2 - 256 : Nat) : Int)) (by omega) (by omega), u64w (x := ((ipatch (numAt (nb s) 10 2) (numAt (nb s) 8 2) : Nat) : Int)) (by omega) (by omega)]
      refine Ev.bind (bytes_ev (n := 2) (by decide) (by omega)) (ev_pos (by rw [zs, zb]; decide) (Ev.bind (bytes_ev (n := 2) (by decide) (by omega)) (ev_pos (by rw [ByteArray.size_append, zs, zb, zb]; decide) (ev_pos (by omega) (ev_pos ?_ (ev_now ?_))))))
      · rw [ByteArray.size_append, ByteArray.size_append, zs, zb, zb, ByteArray.size_extract]
        omega
      · refine congrArg (fun x : ByteArray => (x, (0 : Int))) (nb_inj ?_)
        rw [nb_bs (((nb_byt s).take 8).append ((be_byt _ _).append ((be_byt _ _).append ((nb_byt s).drop 12))))]
        simp only [nb_append, nb_bs (be_byt _ _), nb_extract, List.drop_zero, List.append_assoc]
        rw [List.take_of_length_le (show (nb s).length ≤ s.size by omega)]
  · have e1 : iparse s = ibad (iwrong s) := if_neg hw
    rw [e1, if_neg hw]
    exact ev_neg hw (ev_now rfl)
end Go.Proofs.YtigagipeaheclaaDoor.P
