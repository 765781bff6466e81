/- InetBack: what is built is parsed as it was, whatever stands behind; what is parsed, built, is the bytes again but for the sum's other nothing: for every input (of at most 1700 bytes, as the statement cuts them). -/
import Derived.Test.YtigagipeaheclaaDoorInetMore
import Derived.Test.YtigagipeaheclaaDoorInetPlain
import Derived.OpenShut
import Derived.Test.YtigagipeaheclaaDoorPx25
namespace Go.Proofs.YtigagipeaheclaaDoor.Pure
set_option linter.unusedSimpArgs false
set_option linter.unusedVariables false
open Go Go.RowKit Go.Proofs.YtigagipeaheclaaDoorW.PrintWords Go.Proofs.YtigagipeaheclaaDoorW.PrintLast Go.Proofs.YtigagipeaheclaaDoorW.PrintMore Go.Proofs.YtigagipeaheclaaDoor.L Go.Proofs.YtigagipeaheclaaDoor.P

theorem back_cut {s t : ByteArray} {n v : Nat} (hn : 20 ≤ n) (hs : n ≤ s.size) (ht : nb t = (nb s).take 10 ++ (be 2 v ++ ((nb s).take n).drop 12)) :
    t.size = n ∧ t.extract 0 10 = s.extract 0 10 ∧ t.extract 12 t.size = s.extract 12 n ∧ t.extract 10 12 = bs (be 2 v) := by
  have hl := nb_len s
  have h10 : ((nb s).take 10).length = 10 := by
    rw [List.length_take]
    omega
  have h12 : ((nb s).take 10 ++ be 2 v).length = 12 := by
    rw [List.length_append, h10, be_len]
  have hz : t.size = n := by
    rw [← nb_len t, ht, ← List.append_assoc, List.length_append, h12, List.length_drop, List.length_take]
    omega
  refine ⟨hz, ?_, ?_, ?_⟩
  · apply nb_inj
    rw [nb_extract, nb_extract, ht, List.drop_zero, List.drop_zero, List.take_append_of_le_length (by omega), List.take_take]
    rfl
  · apply nb_inj
    rw [nb_extract, nb_extract, List.take_of_length_le (by rw [nb_len]; exact Nat.le_refl _), ht, ← List.append_assoc, List.drop_append_of_le_length (by omega), List.drop_of_length_le (by omega), List.nil_append]
  · apply nb_inj
    rw [nb_extract, nb_bs (be_byt _ _), ht, ← List.append_assoc, List.take_append_of_le_length (by omega), List.take_of_length_le (by omega), List.drop_append_of_le_length (by omega), List.drop_of_length_le (by omega), List.nil_append]
theorem back_two {s : ByteArray} (hs : 12 ≤ s.size) : s.extract 10 12 = bs (be 2 (numAt (nb s) 10 2)) := by
  have hl := nb_len s
  apply nb_inj
  rw [nb_extract, nb_bs (be_byt _ _), i_be_numAt (nb_byt s) (by omega), List.take_drop]
theorem back_j1 {s : ByteArray} (hs : s.size ≤ 1700) : Ev (fun k => gangwaylaw06_InetBack.j1 k s) true := by
  refine ev_succ ?_
  simp only [gangwaylaw06_InetBack.j1]
  refine Ev.bind (iparse_ev (by omega)) ?_
  by_cases hw : iwrong s = 0
  · obtain ⟨w1, w2, w3, w4, w5, w6⟩ := iwrong_ok hw
    have e : iparse s = iread s := if_pos hw
    have l1 := numAt_lt (nb_byt s) 12 4
    have l2 := numAt_lt (nb_byt s) 16 4
    have e4 : (256 : Nat) ^ 4 = 4294967296 := by decide
    rw [e]
    unfold iread
    refine ev_pos rfl (Ev.bind (ibuild_ev (by omega) (by omega) _ _ _ _ _ _ _ _) ?_)
    unfold ibuild
    rw [if_pos (iread_ok hw)]
    have hb := fun sum => (iread_bytes hw sum).1
    have hby := fun sum => ibytes_byt (iread_ok hw) (decide (numAt (nb s) 6 2 / 16384 % 2 = 1)) (decide (numAt (nb s) 6 2 / 8192 % 2 = 1)) sum (numAt (nb s) 12 4) (numAt (nb s) 16 4) (nb_byt (s.extract 20 (numAt (nb s) 2 2)))
    rw [hb]
    have ht : nb (bs ((nb s).take 10 ++ (be 2 (itold (((nb s).getD 1 0 : Nat) : Int) ((numAt (nb s) 4 2 : Nat) : Int) (decide (numAt (nb s) 6 2 / 16384 % 2 = 1)) (decide (numAt (nb s) 6 2 / 8192 % 2 = 1)) ((numAt (nb s) 6 2 % 8192 : Nat) : Int) (((nb s).getD 8 0 : Nat) : Int) (((nb s).getD 9 0 : Nat) : Int) (numAt (nb s) 12 4) (numAt (nb s) 16 4) (nb (s.extract 20 (numAt (nb s) 2 2)))) ++ ((nb s).take (numAt (nb s) 2 2)).drop 12)))
        = (nb s).take 10 ++ (be 2 (itold (((nb s).getD 1 0 : Nat) : Int) ((numAt (nb s) 4 2 : Nat) : Int) (decide (numAt (nb s) 6 2 / 16384 % 2 = 1)) (decide (numAt (nb s) 6 2 / 8192 % 2 = 1)) ((numAt (nb s) 6 2 % 8192 : Nat) : Int) (((nb s).getD 8 0 : Nat) : Int) (((nb s).getD 9 0 : Nat) : Int) (numAt (nb s) 12 4) (numAt (nb s) 16 4) (nb (s.extract 20 (numAt (nb s) 2 2)))) ++ ((nb s).take (numAt (nb s) 2 2)).drop 12) := by
      apply nb_bs
      rw [← hb]
      exact hby _
    have hsum := iread_sum hw
    clear hb hby
    generalize itold (((nb s).getD 1 0 : Nat) : Int) ((numAt (nb s) 4 2 : Nat) : Int) (decide (numAt (nb s) 6 2 / 16384 % 2 = 1)) (decide (numAt (nb s) 6 2 / 8192 % 2 = 1)) ((numAt (nb s) 6 2 % 8192 : Nat) : Int) (((nb s).getD 8 0 : Nat) : Int) (((nb s).getD 9 0 : Nat) : Int) (numAt (nb s) 12 4) (numAt (nb s) 16 4) (nb (s.extract 20 (numAt (nb s) 2 2))) = v at *
    generalize bs ((nb s).take 10 ++ (be 2 v ++ ((nb s).take (numAt (nb s) 2 2)).drop 12)) = t at *
    obtain ⟨hz, c1, c2, c3⟩ := back_cut w4 w6 ht
    have c4 := back_two (s := s) (by omega)
    refine ev_pos rfl (ev_neg (by dsimp only; omega) (ev_neg (by dsimp only; omega) (ev_pos (by decide) (ev_pos (by dsimp only; omega) (ev_pos (by omega) ?_)))))
    dsimp only
    have q2 : ((t.size : Int)).toNat = t.size := Int.toNat_natCast _
    rw [q2, c3, c4]
    have c2' : (t.extract 12 t.size).toList = (s.extract 12 t.size).toList := by rw [c2, hz]
    have c1' : (t.extract 0 10).toList = (s.extract 0 10).toList := by rw [c1]
    by_cases hv : v = numAt (nb s) 10 2
    · rw [hv]
      exact ev_pos rfl (ev_pos (by decide) (ev_pos (by omega) (ev_pos (by omega) (ev_pos c1' (ev_pos (by omega) (ev_pos c2' (Ev.bind inet_fixed_ev (ev_now rfl))))))))
    · rcases hsum with h | ⟨h1, h2⟩
      · exact absurd h hv
      · rw [h1, h2]
        exact ev_neg (by decide +kernel) (ev_pos (by decide +kernel) (ev_pos (by decide +kernel) (ev_pos (by decide) (ev_pos (by omega) (ev_pos (by omega) (ev_pos c1' (ev_pos (by omega) (ev_pos c2' (Ev.bind inet_fixed_ev (ev_now rfl))))))))))
  · have e : iparse s = ibad (iwrong s) := if_neg hw
    rw [e]
    unfold ibad
    exact ev_neg hw (ev_pos (by simp) (Ev.bind inet_fixed_ev (ev_now rfl)))
theorem InetBack (tos id : Int) (whole more : Bool) (off ttl proto src dst : Int) (body s : ByteArray) (w0 : (Lit.int .i64 tos).wf = true) (w1 : (Lit.int .i64 id).wf = true) (w4 : (Lit.int .i64 off).wf = true) (w5 : (Lit.int .i64 ttl).wf = true) (w6 : (Lit.int .i64 proto).wf = true) (w7 : (Lit.int .u32 src).wf = true) (w8 : (Lit.int .u32 dst).wf = true) (w9 : body.size ≤ maxLen) (w10 : s.size ≤ 140737488351232) :
    ∃ k, gangwaylaw06_InetBack.f k tos id whole more off ttl proto src dst body s = some true := by
  have b7 := bounds_u32 w7
  have b8 := bounds_u32 w8
  obtain ⟨src, rfl⟩ := Int.eq_ofNat_of_zero_le b7.1
  obtain ⟨dst, rfl⟩ := Int.eq_ofNat_of_zero_le b8.1
  refine Ev.rounds ?_
  unfold gangwaylaw06_InetBack.f
  obtain ⟨c, e, hc⟩ := icut_some tos id whole more off ttl proto (src : Int) (dst : Int) body
  rw [e]
  refine ev_some ?_
  dsimp only
  refine ev_pos (mn_nonneg (size_nat s) (by decide)) (ev_pos (mn_le (s.size : Int) 1700).1 ?_)
  have hm := cut_size s 1700
  generalize s.extract 0 (mn (s.size : Int) 1700).toNat = s at *
  refine ev_succ ?_
  simp only [gangwaylaw06_InetBack.j0]
  refine Ev.bind (ibuild_ev (by omega) (by omega) tos id whole more off ttl proto c) ?_
  unfold ibuild
  by_cases hok : iok tos id off ttl proto c.size = true
  · rw [if_pos hok]
    have hok' := hok
    obtain ⟨⟨a0, a1⟩, ⟨b0, b1⟩, ⟨c0, c1⟩, ⟨d0, d1⟩, ⟨o0, o1⟩, hn⟩ := iok_iff.1 hok'
    have hfl := iflags_lt (off := off.toNat) (by omega) whole more
    have hz : (bs (ibytes tos id whole more off ttl proto (itold tos id whole more off ttl proto src dst (nb c)) src dst (nb c))).size = 20 + c.size := by
      rw [bs_size, ibytes_len, nb_len]
    have hsum : sumOk tos.toNat (20 + c.size) id.toNat (iflags off.toNat whole more) ttl.toNat proto.toNat (itold tos id whole more off ttl proto src dst (nb c)) src dst := by
      unfold itold
      rw [nb_len]
      exact isum_ok _ _ _ (by omega) (by omega) (by omega) (by omega) (by omega)
    have hlt : itold tos id whole more off ttl proto src dst (nb c) < 65536 := isum_lt _ _ _ _ _ _ _ _
    obtain ⟨p1, p2⟩ := ibuilt_parse s hok hlt (by omega) (by omega) hsum
    generalize itold tos id whole more off ttl proto src dst (nb c) = v at *
    generalize bs (ibytes tos id whole more off ttl proto v src dst (nb c)) = t at *
    refine ev_pos rfl (ev_pos (by dsimp only; omega) ?_)
    dsimp only
    refine Ev.bind (iparse_ev (by rw [ByteArray.size_append]; omega)) ?_
    have e2 : iparse (t ++ s) = iread (t ++ s) := if_pos p1
    rw [e2, p2]
    exact ev_pos rfl (ev_neg (by simp) (back_j1 hm))
  · rw [if_neg hok]
    exact ev_neg (by decide) (back_j1 hm)
end Go.Proofs.YtigagipeaheclaaDoor.Pure
