/- InetOlder: what is built, made older over and over, is the packet with one less to live, and as long; with none left it is none: for every input (of bodies of at most 1700 bytes, as the statement cuts them). -/
import Derived.Test.YtigagipeaheclaaDoorInetMore
import Derived.Test.YtigagipeaheclaaDoorInetPlain
import Derived.OpenShut
import Derived.Test.YtigagipeaheclaaDoorPx26
namespace Go.Proofs.YtigagipeaheclaaDoor.Pure
set_option linter.unusedSimpArgs false
set_option linter.unusedVariables false
open Go Go.RowKit Go.Proofs.YtigagipeaheclaaDoorW.PrintWords Go.Proofs.YtigagipeaheclaaDoorW.PrintLast Go.Proofs.YtigagipeaheclaaDoorW.PrintMore Go.Proofs.YtigagipeaheclaaDoor.L Go.Proofs.YtigagipeaheclaaDoor.P

theorem ibuilt_size (tos id : Int) (whole more : Bool) (off ttl proto : Int) (sum src dst : Nat) (body : ByteArray) : (bs (ibytes tos id whole more off ttl proto sum src dst (nb body))).size = 20 + body.size := by
  rw [bs_size, ibytes_len, nb_len]
theorem ibuilt_iparse {tos id off ttl proto : Int} {whole more : Bool} {sum src dst : Nat} {body : ByteArray} (hok : iok tos id off ttl proto body.size = true) (h4 : sum < 65536) (h5 : src < 4294967296) (h6 : dst < 4294967296)
    (hs : sumOk tos.toNat (20 + body.size) id.toNat (iflags off.toNat whole more) ttl.toNat proto.toNat sum src dst) :
    iparse (bs (ibytes tos id whole more off ttl proto sum src dst (nb body))) = (tos, id, whole, more, off, ttl, proto, (src : Int), (dst : Int), body, 0) := by
  obtain ⟨p1, p2⟩ := ibuilt_parse (⟨#[]⟩ : ByteArray) hok h4 h5 h6 hs
  have en : bs (ibytes tos id whole more off ttl proto sum src dst (nb body)) ++ (⟨#[]⟩ : ByteArray) = bs (ibytes tos id whole more off ttl proto sum src dst (nb body)) := by
    apply ByteArray.ext
    rw [ByteArray.data_append]
    simp
  rw [en] at p1 p2
  exact (if_pos p1).trans p2
theorem older_l0 {tos id off proto : Int} {whole more : Bool} {src dst : Nat} {body : ByteArray} (hb : body.size ≤ 1700) (h5 : src < 4294967296) (h6 : dst < 4294967296) (x1 : Int) : ∀ (n : Nat) (v : Nat) (x7 : Int), iok tos id off (n : Int) proto body.size = true → v < 65536 →
    sumOk tos.toNat (20 + body.size) id.toNat (iflags off.toNat whole more) n proto.toNat v src dst →
    Ev (fun k => gangwaylaw06_InetOlder.l0 k x1 (bs (ibytes tos id whole more off (n : Int) proto v src dst (nb body))) x7 tos id whole more off (n : Int) proto (src : Int) (dst : Int) body) true := by
  intro n
  induction n with
  | zero =>
    intro v x7 hok hv hs
    refine ev_succ ?_
    simp only [gangwaylaw06_InetOlder.l0]
    refine ev_succ ?_
    simp only [gangwaylaw06_InetOlder.j1]
    by_cases hd : decide (x7 < Go.bits .and .i64 x1 31) = true
    · refine ev_pos hd (Ev.bind (iolder_ev (by rw [ibuilt_size]; omega)) ?_)
      rw [ibuilt_older hok hv h5 h6 hs, if_pos (show ((0 : Nat) : Int) = 0 from rfl)]
      exact ev_pos rfl (ev_pos rfl (ev_pos (by decide +kernel) (Ev.bind inet_fixed_ev (ev_now rfl))))
    · exact ev_neg hd (Ev.bind inet_fixed_ev (ev_now rfl))
  | succ n ih =>
    intro v x7 hok hv hs
    refine ev_succ ?_
    simp only [gangwaylaw06_InetOlder.l0]
    refine ev_succ ?_
    simp only [gangwaylaw06_InetOlder.j1]
    by_cases hd : decide (x7 < Go.bits .and .i64 x1 31) = true
    · have hn0 : ¬ ((n + 1 : Nat) : Int) = 0 := by omega
      have e1 : ((n + 1 : Nat) : Int) - 1 = (n : Int) := by omega
      have hlt := (iok_iff.1 hok).2.1.2
      have e2 : wrap64 (n : Int) = (n : Int) := w64 (by omega) (by omega)
      have hok2 := iok_older hok hn0
      have hs2 := isum_older (whole := whole) (more := more) hok hn0 hv h5 h6 hs
      have hv2 := ipatch_lt v (((n + 1 : Nat) : Int).toNat * 256 + proto.toNat)
      refine ev_pos hd (Ev.bind (iolder_ev (by rw [ibuilt_size]; omega)) ?_)
      rw [ibuilt_older hok hv h5 h6 hs, if_neg hn0]
      refine ev_neg hn0 ?_
      dsimp only
      rw [e1] at hok2 hs2 ⊢
      rw [e2]
      generalize ipatch v (((n + 1 : Nat) : Int).toNat * 256 + proto.toNat) = v2 at *
      refine ev_succ ?_
      simp only [gangwaylaw06_InetOlder.j2]
      refine Ev.bind (iparse_ev (by rw [ibuilt_size]; omega)) ?_
      rw [ibuilt_iparse hok2 hv2 h5 h6 hs2]
      refine ev_pos (by trivial) (ev_pos rfl (ev_neg (by simp) (ev_pos (by rw [ibuilt_size, ibuilt_size]) ?_)))
      exact ih v2 _ hok2 hv2 hs2
    · exact ev_neg hd (Ev.bind inet_fixed_ev (ev_now rfl))
theorem InetOlder (tos id : Int) (whole more : Bool) (off ttl proto src dst : Int) (body : ByteArray) (n : Int) (w0 : (Lit.int .i64 tos).wf = true) (w1 : (Lit.int .i64 id).wf = true) (w4 : (Lit.int .i64 off).wf = true) (w5 : (Lit.int .i64 ttl).wf = true) (w6 : (Lit.int .i64 proto).wf = true) (w7 : (Lit.int .u32 src).wf = true) (w8 : (Lit.int .u32 dst).wf = true) (w9 : body.size ≤ maxLen) (w10 : (Lit.int .i64 n).wf = true) :
    ∃ k, gangwaylaw06_InetOlder.f k tos id whole more off ttl proto src dst body n = some true := by
  have b7 := bounds_u32 w7
  have b8 := bounds_u32 w8
  obtain ⟨src, rfl⟩ := Int.eq_ofNat_of_zero_le b7.1
  obtain ⟨dst, rfl⟩ := Int.eq_ofNat_of_zero_le b8.1
  refine Ev.rounds ?_
  unfold gangwaylaw06_InetOlder.f
  obtain ⟨c, e, hc⟩ := icut_some tos id whole more off ttl proto (src : Int) (dst : Int) body
  rw [e]
  refine ev_some ?_
  dsimp only
  refine Ev.bind (ibuild_ev (by omega) (by omega) tos id whole more off ttl proto c) ?_
  unfold ibuild
  by_cases hok : iok tos id off ttl proto c.size = true
  · rw [if_pos hok]
    have hok' := hok
    obtain ⟨⟨a0, a1⟩, ⟨b0, b1⟩, ⟨c0, c1⟩, ⟨d0, d1⟩, ⟨o0, o1⟩, hn⟩ := iok_iff.1 hok'
    have hfl := iflags_lt (off := off.toNat) (by omega) whole more
    obtain ⟨ttl, rfl⟩ := Int.eq_ofNat_of_zero_le b0
    have hsum : sumOk tos.toNat (20 + c.size) id.toNat (iflags off.toNat whole more) ttl proto.toNat (itold tos id whole more off (ttl : Int) proto src dst (nb c)) src dst := by
      unfold itold
      rw [nb_len]
      exact isum_ok _ _ _ (by omega) (by omega) (by omega) (by omega) (by omega)
    refine ev_pos rfl ?_
    exact older_l0 hc (by omega) (by omega) n ttl _ 0 hok (isum_lt _ _ _ _ _ _ _ _) hsum
  · rw [if_neg hok]
    exact ev_neg (by decide) (ev_pos (by decide +kernel) (Ev.bind inet_fixed_ev (ev_now rfl)))
end Go.Proofs.YtigagipeaheclaaDoor.Pure
