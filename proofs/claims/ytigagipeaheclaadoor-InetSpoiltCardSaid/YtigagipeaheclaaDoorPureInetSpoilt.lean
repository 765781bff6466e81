/- InetSpoilt: a byte of the first twenty that is another one makes a packet none: for every input (of bodies of at most 1700 bytes, as the statement cuts them). -/
import Derived.Test.YtigagipeaheclaaDoorInetMore
import Derived.Test.YtigagipeaheclaaDoorInetPlain
import Derived.OpenShut
import Derived.Test.YtigagipeaheclaaDoorPx27
namespace Go.Proofs.YtigagipeaheclaaDoor.Pure
set_option linter.unusedSimpArgs false
set_option linter.unusedVariables false
open Go Go.RowKit Go.Proofs.YtigagipeaheclaaDoorW.PrintWords Go.Proofs.YtigagipeaheclaaDoorW.PrintLast Go.Proofs.YtigagipeaheclaaDoorW.PrintMore Go.Proofs.YtigagipeaheclaaDoor.L Go.Proofs.YtigagipeaheclaaDoor.P

theorem set_bytes {t : ByteArray} {i c : Nat} (hi : i < t.size) (hc : c < 256) : nb ((t.extract 0 i ++ bs [c]) ++ t.extract (i + 1) t.size) = (nb t).set i c := by
  have hl := nb_len t
  rw [nb_append, nb_append, nb_extract, nb_extract, List.drop_zero, nb_bs (Byt.cons hc Byt.nil), List.take_of_length_le (show (nb t).length ≤ t.size by omega), List.set_eq_take_append_cons_drop, if_pos (by omega), List.append_assoc]
  rfl
theorem InetSpoilt (tos id : Int) (whole more : Bool) (off ttl proto src dst : Int) (body : ByteArray) (n c0 : Int) (w0 : (Lit.int .i64 tos).wf = true) (w1 : (Lit.int .i64 id).wf = true) (w4 : (Lit.int .i64 off).wf = true) (w5 : (Lit.int .i64 ttl).wf = true) (w6 : (Lit.int .i64 proto).wf = true) (w7 : (Lit.int .u32 src).wf = true) (w8 : (Lit.int .u32 dst).wf = true) (w9 : body.size ≤ maxLen) (w10 : (Lit.int .i64 n).wf = true) (w11 : (Lit.int .u8 c0).wf = true) :
    ∃ k, gangwaylaw06_InetSpoilt.f k tos id whole more off ttl proto src dst body n c0 = some true := by
  have b7 := bounds_u32 w7
  have b8 := bounds_u32 w8
  have b11 := bounds_u8 w11
  obtain ⟨src, rfl⟩ := Int.eq_ofNat_of_zero_le b7.1
  obtain ⟨dst, rfl⟩ := Int.eq_ofNat_of_zero_le b8.1
  obtain ⟨x, rfl⟩ := Int.eq_ofNat_of_zero_le b11.1
  refine Ev.rounds ?_
  unfold gangwaylaw06_InetSpoilt.f
  obtain ⟨c, e, hc⟩ := icut_some tos id whole more off ttl proto (src : Int) (dst : Int) body
  rw [e]
  refine ev_some ?_
  dsimp only
  refine Ev.bind (ibuild_ev (by omega) (by omega) tos id whole more off ttl proto c) ?_
  unfold ibuild
  by_cases hok : iok tos id off ttl proto c.size = true
  · rw [if_pos hok]
    have hok' := hok
    obtain ⟨⟨a0, a1⟩, ⟨b0, b1⟩, ⟨c0, c1⟩, ⟨d0, d1⟩, ⟨o0, o1⟩, hn⟩ := iok_iff.1 hok'
    have hfl := iflags_lt (off := off.toNat) (by omega) whole more
    have hz : (bs (ibytes tos id whole more off ttl proto (itold tos id whole more off ttl proto src dst (nb c)) src dst (nb c))).size = 20 + c.size := by
      rw [bs_size, ibytes_len, nb_len]
    have hsum : sumOk tos.toNat (20 + c.size) id.toNat (iflags off.toNat whole more) ttl.toNat proto.toNat (itold tos id whole more off ttl proto src dst (nb c)) src dst := by
      unfold itold
      rw [nb_len]
      exact isum_ok _ _ _ (by omega) (by omega) (by omega) (by omega) (by omega)
    have hlt : itold tos id whole more off ttl proto src dst (nb c) < 65536 := isum_lt _ _ _ _ _ _ _ _
    have hp := (ibuilt_parse (⟨#[]⟩ : ByteArray) hok hlt (show src < 4294967296 by omega) (show dst < 4294967296 by omega) hsum).1
    have en : bs (ibytes tos id whole more off ttl proto (itold tos id whole more off ttl proto src dst (nb c)) src dst (nb c)) ++ (⟨#[]⟩ : ByteArray) = bs (ibytes tos id whole more off ttl proto (itold tos id whole more off ttl proto src dst (nb c)) src dst (nb c)) := by
      apply ByteArray.ext
      rw [ByteArray.data_append]
      simp
    rw [en] at hp
    generalize itold tos id whole more off ttl proto src dst (nb c) = v at *
    generalize bs (ibytes tos id whole more off ttl proto v src dst (nb c)) = t at *
    have hm : 0 ≤ n % 65536 := Int.emod_nonneg _ (by decide)
    have ht : Int.tmod (n % 65536) 20 = (n % 65536) % 20 := Int.tmod_eq_emod_of_nonneg hm
    have h0 := Int.emod_nonneg (n % 65536) (show (20 : Int) ≠ 0 by decide)
    have h1 := Int.emod_lt_of_pos (n % 65536) (show (0 : Int) < 20 by decide)
    dsimp only
    rw [mask16, ht]
    clear ht hm
    generalize (n % 65536) % 20 = i at *
    obtain ⟨i, rfl⟩ := Int.eq_ofNat_of_zero_le h0
    refine ev_pos rfl (ev_neg (by omega) ?_)
    have hi1 : wrap64 ((i : Int) + 1) = ((i + 1 : Nat) : Int) := (w64 (by omega) (by omega)).trans (by omega)
    have hx : strOfNums [(x : Int)] = bs [x] := by
      rw [nums_bs _ (by simp; omega)]
      rfl
    have hzx : (bs [x]).size = 1 := bs_size _
    refine ev_succ ?_
    simp only [gangwaylaw06_InetSpoilt.j0]
    rw [hi1]
    clear hi1
    simp only [Int.toNat_natCast]
    refine ev_pos h0 (ev_pos (by omega) (ev_some ?_))
    rw [hx]
    have z1 : (t.extract 0 i).size = i := by
      rw [ByteArray.size_extract]
      omega
    have z2 : (t.extract (i + 1) t.size).size = t.size - (i + 1) := by
      rw [ByteArray.size_extract]
      omega
    have hset := set_bytes (t := t) (i := i) (c := x) (by omega) (by omega)
    refine ev_pos (by rw [z1, hzx]; omega) (ev_pos (by omega) (ev_pos (by omega) (ev_pos (by rw [ByteArray.size_append, z1, hzx, z2]; omega) ?_)))
    have hzs : ((t.extract 0 i ++ bs [x]) ++ t.extract (i + 1) t.size).size = t.size := by
      rw [ByteArray.size_append, ByteArray.size_append, z1, hzx, z2]
      omega
    generalize (t.extract 0 i ++ bs [x]) ++ t.extract (i + 1) t.size = s at *
    refine Ev.bind (iparse_ev (by omega)) (ev_pos (by omega) ?_)
    have hb : bt t (i : Int) = (((nb t).getD i 0 : Nat) : Int) := bt_at_nb t i
    have hl := nb_len t
    rw [hb]
    by_cases hq : x = (nb t).getD i 0
    · have hst : s = t := by
        apply nb_inj
        rw [hset, hq]
        apply List.ext_getElem?
        intro j
        rw [List.getElem?_set]
        by_cases hj : i = j
        · subst hj
          rw [if_pos rfl, if_pos (by omega), List.getD_eq_getElem?_getD, List.getElem?_eq_getElem (by omega)]
          rfl
        · rw [if_neg hj]
      rw [hst]
      have e1 : iparse t = iread t := if_pos hp
      rw [e1]
      exact ev_pos (by omega) (ev_pos rfl (Ev.bind inet_fixed_ev (ev_now rfl)))
    · refine ev_neg (by omega) ?_
      have hw : iwrong s ≠ 0 := by
        intro h
        obtain ⟨_, _, q3, _⟩ := iwrong_ok h
        obtain ⟨_, _, p3, _⟩ := iwrong_ok hp
        rw [hset] at q3
        exact hq (spoilt_wrong (nb_byt t) (by omega) (by omega) (by omega) p3 q3)
      have e1 : iparse s = ibad (iwrong s) := if_neg hw
      rw [e1]
      exact ev_neg hw (Ev.bind inet_fixed_ev (ev_now rfl))
  · rw [if_neg hok]
    exact ev_neg (by decide) (ev_pos (by decide +kernel) (Ev.bind inet_fixed_ev (ev_now rfl)))
end Go.Proofs.YtigagipeaheclaaDoor.Pure
