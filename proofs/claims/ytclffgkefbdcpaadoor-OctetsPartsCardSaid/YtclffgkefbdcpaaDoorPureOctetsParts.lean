/- OctetsParts: bytes, cut in two at any place, are both parts; a number is its upper part, shifted, and its lower one: for every input (of at most 1000 bytes, as the statement cuts them). -/
import Derived.Test.YtclffgkefbdcpaaDoorOctets
import Derived.OpenShut
import Derived.Test.YtclffgkefbdcpaaDoorPx14
namespace Go.Proofs.YtclffgkefbdcpaaDoor.Pure
set_option linter.unusedSimpArgs false
set_option linter.unusedVariables false
open Go Go.RowKit Go.Proofs.YtclffgkefbdcpaaDoorW.PrintWords Go.Proofs.YtclffgkefbdcpaaDoorW.PrintLast Go.Proofs.YtclffgkefbdcpaaDoorW.PrintMore Go.Proofs.YtclffgkefbdcpaaDoor.L Go.Proofs.YtclffgkefbdcpaaDoor.P

theorem or_32 {x y : Nat} (hx : x < 4294967296) (hy : y < 4294967296) : Go.bits .or .u64 (IntKind.u64.wrap ((x : Int) * 4294967296)) (y : Int) = ((x * 4294967296 + y : Nat) : Int) := by
  rw [u64w (by omega) (by omega)]
  have e : (2 : Int) ^ 64 = 18446744073709551616 := by decide
  have e8 : (2 : Int) ^ 32 = 4294967296 := by decide
  rw [Go.bits_join .u64 64 (by decide) wraps_u64 32 ((x : Int) * 4294967296) (y : Int) (by omega) (by rw [e8]; omega) (by rw [e]; omega) (by omega) (by rw [e8]; omega) (by rw [e]; omega)]
  omega
theorem OctetsParts (s : ByteArray) (c v : Int) (hs : s.size ≤ 140737488351232) (w1 : (Lit.int .i64 c).wf = true) (w2 : (Lit.int .u64 v).wf = true) : ∃ k, gangwaylaw01_OctetsParts.f k s c v = some true := by
  have b2 := bounds_u64 w2
  obtain ⟨v, rfl⟩ := Int.eq_ofNat_of_zero_le b2.1
  refine Ev.rounds ?_
  unfold gangwaylaw01_OctetsParts.f
  refine ev_pos (mn_nonneg (size_nat s) (by decide)) (ev_pos (mn_le (s.size : Int) 1000).1 ?_)
  have hm := cut_size s 1000
  generalize s.extract 0 (mn (s.size : Int) 1000).toNat = s at *
  have hl := nb_len s
  have hby := nb_byt s
  refine ev_succ ?_
  simp only [gangwaylaw01_OctetsParts.j0]
  rw [mask16, w64 (x := (s.size : Int) + 1) (by omega) (by omega)]
  have h0 : 0 ≤ c % 65536 := Int.emod_nonneg _ (by decide)
  have e0 : (c % 65536).tmod ((s.size : Int) + 1) = c % 65536 % ((s.size : Int) + 1) := Int.tmod_eq_emod_of_nonneg h0
  rw [e0]
  have g0 : 0 ≤ c % 65536 % ((s.size : Int) + 1) := Int.emod_nonneg _ (by omega)
  have g1 : c % 65536 % ((s.size : Int) + 1) < (s.size : Int) + 1 := Int.emod_lt_of_pos _ (by omega)
  obtain ⟨k, hk⟩ := Int.eq_ofNat_of_zero_le g0
  rw [hk] at g1 ⊢
  refine ev_neg (by omega) (ev_succ ?_)
  simp only [gangwaylaw01_OctetsParts.j1]
  have c1 : gcut s 0 (k : Int) = (s.extract 0 k, 0) := by
    unfold gcut
    rw [if_neg (by omega), if_neg (by omega), if_neg (by omega), if_neg (by omega), Int.zero_add, Int.toNat_natCast]
    rfl
  have c2 : gcut s (k : Int) ((s.size : Int) - (k : Int)) = (s.extract k s.size, 0) := by
    unfold gcut
    rw [if_neg (by omega), if_neg (by omega), if_neg (by omega), if_neg (by omega), Int.toNat_natCast, show ((k : Int) + ((s.size : Int) - (k : Int))).toNat = s.size by omega]
  have c3 : gcut s (k : Int) ((s.size : Int) - (k : Int) + 1) = ((⟨#[]⟩ : ByteArray), 10) := by
    unfold gcut
    rw [if_neg (by omega), if_neg (by omega), if_neg (by omega), if_pos (by omega)]
  rw [w64 (x := (s.size : Int) - (k : Int)) (by omega) (by omega), cut_eq (by omega), cut_eq (by omega), c1, c2]
  refine ev_some (ev_some (ev_succ ?_))
  simp only [gangwaylaw01_OctetsParts.j2]
  rw [w64 (x := (s.size : Int) - (k : Int)) (by omega) (by omega), w64 (x := (s.size : Int) - (k : Int) + 1) (by omega) (by omega), cut_eq (by omega), c3]
  refine ev_some (ev_succ ?_)
  simp only [gangwaylaw01_OctetsParts.j3]
  have e8 : (256 : Nat) ^ 8 = 18446744073709551616 := by decide
  have e4 : (256 : Nat) ^ 4 = 4294967296 := by decide
  have hz : (bs (be 8 v)).size = 8 := by rw [bs_size, be_len]
  have p := put_ev (v := v) (n := 8) (by decide) (by decide) (by omega)
  have n1 : numAt (be 8 v) 0 4 = v / 4294967296 := by
    rw [be_split 4 4 v, e4]
    have := a_numAt_be (p := []) (be 4 v) (n := 4) (v := v / 4294967296) (i := 0) rfl (by omega)
    simpa using this
  have n2 : numAt (be 8 v) 4 4 = v % 4294967296 := by
    have hb := be_split 4 4 v
    have h4 : be 4 v = be 4 (v % 4294967296) := by
      have q := be_num (be 4 v) (be_byt 4 v)
      rw [be_len, num_be, e4] at q
      exact q.symm
    rw [hb, h4]
    have := a_numAt_be (p := be 4 (v / 256 ^ 4)) [] (n := 4) (v := v % 4294967296) (i := 4) (be_len _ _) (by omega)
    simpa using this
  have t1 := get_ev (s := bs (be 8 v)) (i := 0) (n := 4) (by decide) (by decide) (by omega) (by omega)
  have t2 := get_ev (s := bs (be 8 v)) (i := 4) (n := 4) (by decide) (by decide) (by omega) (by omega)
  rw [nb_bs (be_byt 8 v), n1] at t1
  rw [nb_bs (be_byt 8 v), n2] at t2
  refine Ev.bind p (Ev.bind t1 (Ev.bind t2 ?_))
  have hcat : (s.extract 0 k ++ s.extract k s.size) = s := by
    apply nb_inj
    rw [nb_append, nb_extract, nb_extract, List.drop_zero, List.take_of_length_le (show (nb s).length ≤ s.size by omega), List.take_append_drop]
  have zcat : (s.extract 0 k).size + (s.extract k s.size).size ≤ 9223372036854775807 := by
    rw [ByteArray.size_extract, ByteArray.size_extract]
    omega
  have join : Go.bits .or .u64 (IntKind.u64.wrap (((v / 4294967296 : Nat) : Int) * 4294967296)) ((v % 4294967296 : Nat) : Int) = (v : Int) := by
    rw [or_32 (by omega) (by omega)]
    omega
  refine ev_pos trivial (ev_pos trivial (ev_pos zcat (ev_pos (by rw [hcat]) (ev_pos trivial (ev_pos rfl (ev_pos rfl (ev_pos rfl (ev_pos join (Ev.bind octets_fixed_ev (ev_succ ?_))))))))))
  simp only [gangwaylaw01_OctetsParts.j4]
  exact ev_now rfl
end Go.Proofs.YtclffgkefbdcpaaDoor.Pure
