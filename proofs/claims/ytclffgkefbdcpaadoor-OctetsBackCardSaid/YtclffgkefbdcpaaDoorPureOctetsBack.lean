/- OctetsBack: what is put is got as it was, wherever it stands; what is got, put, is the bytes; what is written as digits is read again: for every input (of at most 1000 bytes, as the statement cuts them). -/
import Derived.Test.YtclffgkefbdcpaaDoorOctets
import Derived.OpenShut
import Derived.Test.YtclffgkefbdcpaaDoorPx4
import Derived.Test.YtclffgkefbdcpaaDoorPx5
import Derived.Test.YtclffgkefbdcpaaDoorPx8
import Derived.Test.YtclffgkefbdcpaaDoorPx13
namespace Go.Proofs.YtclffgkefbdcpaaDoor.Pure
set_option linter.unusedSimpArgs false
set_option linter.unusedVariables false
open Go Go.RowKit Go.Proofs.YtclffgkefbdcpaaDoorW.PrintWords Go.Proofs.YtclffgkefbdcpaaDoorW.PrintLast Go.Proofs.YtclffgkefbdcpaaDoorW.PrintMore Go.Proofs.YtclffgkefbdcpaaDoor.L Go.Proofs.YtclffgkefbdcpaaDoor.P

theorem back_rest {s : ByteArray} (hs : s.size ≤ 1000) : Ev (fun k => (octets_Hex.f s).bind fun t172 => ((octets_Unhex.f t172).bind fun bt173 => (if bt173.2 = 0 then (if bt173.1.toList = s.toList then (if (t172.size : Int) = (wrap64 (2 * (s.size : Int))) then ((gangwaylaw01_fixed.f k).bind fun t175 => (some t175)) else (none)) else (none)) else (none)))) true := by
  have hl := nb_len s
  have hby := nb_byt s
  have hz : (bs (hexN (nb s))).size = 2 * s.size := by rw [bs_size, hexN_len, hl]
  rw [hex_eq (by omega)]
  refine ev_some ?_
  rw [unhex_eq (by omega)]
  have e : gunhex (bs (hexN (nb s))) = (s, 0) := by
    unfold gunhex
    rw [if_pos (by omega), nb_bs (hexN_byt hby), unhex_hex _ hby]
    show (bs (nb s), (0 : Int)) = _
    rw [bs_nb]
  rw [e]
  refine ev_some (ev_pos rfl (ev_pos rfl (ev_pos ?_ (Ev.bind octets_fixed_ev (ev_now rfl)))))
  rw [hz, w64 (by omega) (by omega)]
  omega
theorem OctetsBack (v n : Int) (s : ByteArray) (w0 : (Lit.int .u64 v).wf = true) (w1 : (Lit.int .i64 n).wf = true) (hs : s.size ≤ 140737488351232) : ∃ k, gangwaylaw01_OctetsBack.f k v n s = some true := by
  have b1 := bounds_u64 w0
  obtain ⟨v, rfl⟩ := Int.eq_ofNat_of_zero_le b1.1
  refine Ev.rounds ?_
  unfold gangwaylaw01_OctetsBack.f
  refine ev_pos (mn_nonneg (size_nat s) (by decide)) (ev_pos (mn_le (s.size : Int) 1000).1 ?_)
  have hm := cut_size s 1000
  generalize s.extract 0 (mn (s.size : Int) 1000).toNat = s at *
  have hl := nb_len s
  have hby := nb_byt s
  refine ev_succ ?_
  simp only [gangwaylaw01_OctetsBack.j0]
  rw [mask3]
  have h0 : 0 ≤ n % 8 := Int.emod_nonneg _ (by decide)
  have h1 : n % 8 < 8 := Int.emod_lt_of_pos _ (by decide)
  obtain ⟨k, hk, k1, k8⟩ : ∃ k : Nat, 1 + n % 8 = (k : Int) ∧ 1 ≤ k ∧ k ≤ 8 := ⟨(1 + n % 8).toNat, by omega, by omega, by omega⟩
  rw [w64 (x := 1 + n % 8) (by omega) (by omega), hk]
  refine ev_succ ?_
  simp only [gangwaylaw01_OctetsBack.j1]
  have hs64 : wrap64 (64 - wrap64 (8 * (k : Int))) = 8 * ((8 - k : Nat) : Int) := by
    rw [w64 (x := 8 * (k : Int)) (by omega) (by omega), w64 (by omega) (by omega)]
    omega
  rw [hs64, shr_nat v (8 - k) (by omega)]
  have hu : v / 256 ^ (8 - k) < 256 ^ k := by
    have e8 : (256 : Nat) ^ 8 = 18446744073709551616 := by decide
    have e9 : (256 : Nat) ^ 8 = 256 ^ (8 - k) * 256 ^ k := by rw [← Nat.pow_add, Nat.sub_add_cancel k8]
    exact Nat.div_lt_of_lt_mul (by rw [← e9]; omega)
  have u : v / 256 ^ (8 - k) = v / 256 ^ (8 - k) := rfl
  refine ev_pos (by omega) (Ev.bind (put_ev k1 k8 hu) (ev_succ ?_))
  simp only [gangwaylaw01_OctetsBack.j2]
  have za : (bs (be k (v / 256 ^ (8 - k)))).size = k := by rw [bs_size, be_len]
  refine ev_pos (by omega) (ev_pos (by rw [ByteArray.size_append]; omega) ?_)
  have g := get_ev (s := s ++ bs (be k (v / 256 ^ (8 - k))) ++ s) (i := s.size) (n := k) k1 k8 (by rw [ByteArray.size_append, ByteArray.size_append]; omega) (by rw [ByteArray.size_append, ByteArray.size_append]; omega)
  have hn : numAt (nb (s ++ bs (be k (v / 256 ^ (8 - k))) ++ s)) s.size k = v / 256 ^ (8 - k) := by
    rw [nb_append, nb_append, nb_bs (be_byt _ _), List.append_assoc]
    exact a_numAt_be _ hl hu
  rw [hn] at g
  refine Ev.bind g (ev_pos trivial (ev_pos rfl ?_))
  rw [hs64, shr_nat v (8 - k) (by omega), za]
  refine ev_pos (by omega) (ev_pos rfl (ev_succ ?_))
  simp only [gangwaylaw01_OctetsBack.j3]
  refine ev_neg (by simp) ?_
  by_cases h : k ≤ s.size
  · have g0 := get_ev (s := s) (i := 0) (n := k) k1 k8 (by omega) (by omega)
    have hc := numAt_lt hby 0 k
    refine Ev.bind g0 (ev_pos rfl (Ev.bind (put_ev k1 k8 hc) (ev_pos rfl (ev_neg (by omega) (ev_pos (by omega) (ev_pos (by omega) (ev_succ ?_)))))))
    simp only [gangwaylaw01_OctetsBack.j4]
    have e : bs (be k (numAt (nb s) 0 k)) = s.extract 0 (k : Int).toNat := by
      apply nb_inj
      rw [nb_bs (be_byt _ _), be_numAt hby (by omega), nb_extract, List.drop_zero, List.drop_zero, Int.toNat_natCast]
    refine ev_neg (by rw [e]; simp) ?_
    exact back_rest hm
  · refine Ev.bind (get_short (i := 0) (n := (k : Int)) (by omega) (by omega) (by decide) (by omega) (by omega)) (ev_neg (by decide) ?_)
    exact back_rest hm
end Go.Proofs.YtclffgkefbdcpaaDoor.Pure
