/- InetSizes: a packet's bytes are twenty more than its body's; cut short anywhere it is none: for every input (of bodies of at most 1700 bytes, as the statement cuts them). -/
import Derived.Test.YtigagipeaheclaaDoorInetMore
import Derived.Test.YtigagipeaheclaaDoorInetPlain
import Derived.OpenShut
import Derived.Test.YtigagipeaheclaaDoorPx28
namespace Go.Proofs.YtigagipeaheclaaDoor.Pure
set_option linter.unusedSimpArgs false
set_option linter.unusedVariables false
open Go Go.RowKit Go.Proofs.YtigagipeaheclaaDoorW.PrintWords Go.Proofs.YtigagipeaheclaaDoorW.PrintLast Go.Proofs.YtigagipeaheclaaDoorW.PrintMore Go.Proofs.YtigagipeaheclaaDoor.L Go.Proofs.YtigagipeaheclaaDoor.P

theorem InetSizes (tos id : Int) (whole more : Bool) (off ttl proto src dst : Int) (body : ByteArray) (n : Int) (w0 : (Lit.int .i64 tos).wf = true) (w1 : (Lit.int .i64 id).wf = true) (w4 : (Lit.int .i64 off).wf = true) (w5 : (Lit.int .i64 ttl).wf = true) (w6 : (Lit.int .i64 proto).wf = true) (w7 : (Lit.int .u32 src).wf = true) (w8 : (Lit.int .u32 dst).wf = true) (w9 : body.size ≤ maxLen) (w10 : (Lit.int .i64 n).wf = true) :
    ∃ k, gangwaylaw06_InetSizes.f k tos id whole more off ttl proto src dst body n = some true := by
  have b7 := bounds_u32 w7
  have b8 := bounds_u32 w8
  obtain ⟨src, rfl⟩ := Int.eq_ofNat_of_zero_le b7.1
  obtain ⟨dst, rfl⟩ := Int.eq_ofNat_of_zero_le b8.1
  refine Ev.rounds ?_
  unfold gangwaylaw06_InetSizes.f
  obtain ⟨c, e, hc⟩ := icut_some tos id whole more off ttl proto (src : Int) (dst : Int) body
  rw [e]
  refine ev_some ?_
  dsimp only
  refine Ev.bind (ibuild_ev (by omega) (by omega) tos id whole more off ttl proto c) ?_
  unfold ibuild
  by_cases hok : iok tos id off ttl proto c.size = true
  · rw [if_pos hok]
    have hok' := hok
    obtain ⟨⟨a0, a1⟩, ⟨b0, b1⟩, ⟨c0, c1⟩, ⟨d0, d1⟩, ⟨o0, o1⟩, hn⟩ := iok_iff.1 hok'
    have hfl := iflags_lt (off := off.toNat) (by omega) whole more
    have hz : (bs (ibytes tos id whole more off ttl proto (itold tos id whole more off ttl proto src dst (nb c)) src dst (nb c))).size = 20 + c.size := by
      rw [bs_size, ibytes_len, nb_len]
    have hsum : sumOk tos.toNat (20 + c.size) id.toNat (iflags off.toNat whole more) ttl.toNat proto.toNat (itold tos id whole more off ttl proto src dst (nb c)) src dst := by
      unfold itold
      rw [nb_len]
      exact isum_ok _ _ _ (by omega) (by omega) (by omega) (by omega) (by omega)
    have hlt : itold tos id whole more off ttl proto src dst (nb c) < 65536 := isum_lt _ _ _ _ _ _ _ _
    have hshort := fun {k : Nat} (hk : k < 20 + c.size) => short_wrong hok hlt (show src < 4294967296 by omega) (show dst < 4294967296 by omega) hsum (k := k) hk
    generalize itold tos id whole more off ttl proto src dst (nb c) = v at *
    generalize bs (ibytes tos id whole more off ttl proto v src dst (nb c)) = t at *
    have hpos : (0 : Int) < (t.size : Int) := by omega
    have hm : 0 ≤ n % 65536 := Int.emod_nonneg _ (by decide)
    have h0 := Int.emod_nonneg (n % 65536) (Int.ne_of_gt hpos)
    have h1 := Int.emod_lt_of_pos (n % 65536) hpos
    have hw : wrap64 (20 + (c.size : Int)) = 20 + (c.size : Int) := w64 (by clear h0 h1; omega) (by clear h0 h1; omega)
    have ht : Int.tmod (n % 65536) (t.size : Int) = (n % 65536) % (t.size : Int) := Int.tmod_eq_emod_of_nonneg hm
    dsimp only
    rw [mask16, ht, hw]
    clear hw ht
    generalize (n % 65536) % (t.size : Int) = i at *
    obtain ⟨i, rfl⟩ := Int.eq_ofNat_of_zero_le h0
    have hs := hshort (k := i) (by omega)
    have e1 : iparse (t.extract 0 i) = ibad 60 := by
      unfold iparse
      rw [if_neg (by omega), hs]
    have e2 : iolder (t.extract 0 i) = ((⟨#[]⟩ : ByteArray), 60) := by
      unfold iolder
      rw [if_neg (by omega), hs]
    have hx : (t.extract 0 i).size ≤ 1000000 := by
      rw [ByteArray.size_extract]
      omega
    rw [Int.toNat_natCast]
    refine ev_pos rfl (ev_pos (by omega) (ev_neg (by omega) (ev_pos h0 (ev_pos (by omega) (Ev.bind (iparse_ev hx) (Ev.bind (iolder_ev hx) ?_))))))
    rw [e1, e2]
    exact ev_pos rfl (ev_pos (by decide +kernel) (ev_pos rfl (ev_pos (by decide +kernel) (Ev.bind inet_fixed_ev (ev_now rfl)))))
  · rw [if_neg hok]
    exact ev_neg (by decide) (ev_pos (by decide +kernel) (Ev.bind inet_fixed_ev (ev_now rfl)))
end Go.Proofs.YtigagipeaheclaaDoor.Pure
