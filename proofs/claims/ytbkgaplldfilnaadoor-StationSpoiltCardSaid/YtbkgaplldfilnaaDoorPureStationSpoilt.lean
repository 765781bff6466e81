/- StationSpoilt: a packet that is cut short, or of which a byte of the first twenty is another one, is not taken: for every input (of bodies of at most 1400 bytes, as the statement cuts them). -/
import Derived.Test.YtbkgaplldfilnaaDoorStationPlain
import Derived.OpenShut
import Derived.Test.YtbkgaplldfilnaaDoorPx46
namespace Go.Proofs.YtbkgaplldfilnaaDoor.Pure
set_option linter.unusedSimpArgs false
set_option linter.unusedVariables false
open Go Go.RowKit Go.Proofs.YtbkgaplldfilnaaDoorW.PrintWords Go.Proofs.YtbkgaplldfilnaaDoorW.PrintLast Go.Proofs.YtbkgaplldfilnaaDoorW.PrintMore Go.Proofs.YtbkgaplldfilnaaDoor.L Go.Proofs.YtbkgaplldfilnaaDoor.P

theorem set_bytes {t : ByteArray} {i c : Nat} (hi : i < t.size) (hc : c < 256) : nb ((t.extract 0 i ++ bs [c]) ++ t.extract (i + 1) t.size) = (nb t).set i c := by
  have hl := nb_len t
  rw [nb_append, nb_append, nb_extract, nb_extract, List.drop_zero, nb_bs (Byt.cons hc Byt.nil), List.take_of_length_le (show (nb t).length ≤ t.size by omega), List.set_eq_take_append_cons_drop, if_pos (by omega), List.append_assoc]
  rfl
theorem xor_u8 {a b : Nat} (ha : a < 256) (hb : b < 256) : Go.bits .xor .u8 (a : Int) (b : Int) = ((Nat.xor a b : Nat) : Int) := by
  have h := Nat.xor_lt_two_pow (n := 8) ha hb
  have e : (BitVec.ofNat 8 a ^^^ BitVec.ofNat 8 b).toNat = Nat.xor a b := by
    rw [BitVec.toNat_xor, BitVec.toNat_ofNat, BitVec.toNat_ofNat, Nat.mod_eq_of_lt ha, Nat.mod_eq_of_lt hb]
    rfl
  simp [Go.bits, IntKind.signed, IntKind.bits, IntKind.wrap]
  have h2 : Nat.xor a b < 256 := h
  show (((BitVec.ofNat 8 a ^^^ BitVec.ofNat 8 b).toNat : Nat) : Int) % 256 = ((Nat.xor a b : Nat) : Int)
  rw [e]
  omega
theorem xor_other {a b : Nat} (hb : b ≠ 0) : Nat.xor a b ≠ a := by
  intro h
  have h1 : a ^^^ b = a := h
  have h2 : a ^^^ (a ^^^ b) = a ^^^ a := by rw [h1]
  rw [← Nat.xor_assoc, Nat.xor_self, Nat.zero_xor] at h2
  exact hb h2
/-- The byte that is put in a byte's place is another one. -/
theorem byte_other (n : Int) (x : Nat) (hx : x < 256) : ∃ c : Nat, Go.bits .xor .u8 (x : Int) ((wrap64 (1 + (Go.bits .and .i64 (n / 1048576) 127))) % 256) = (c : Int) ∧ c < 256 ∧ c ≠ x := by
  have hm : Go.bits .and .i64 (n / 1048576) 127 = (n / 1048576) % 128 := mask_nat (n / 1048576) 7 (by decide)
  rw [hm]
  have h0 := Int.emod_nonneg (n / 1048576) (show (128 : Int) ≠ 0 by decide)
  have h1 := Int.emod_lt_of_pos (n / 1048576) (show (0 : Int) < 128 by decide)
  generalize (n / 1048576) % 128 = m at *
  obtain ⟨m, rfl⟩ := Int.eq_ofNat_of_zero_le h0
  have e : wrap64 (1 + (m : Int)) % 256 = ((m + 1 : Nat) : Int) := by
    rw [w64 (by omega) (by omega)]
    omega
  rw [e, xor_u8 hx (by omega)]
  exact ⟨_, rfl, Nat.xor_lt_two_pow (n := 8) hx (by omega), xor_other (by omega)⟩
theorem StationSpoilt (a b id most us ud : Int) (nosum : Bool) (body : ByteArray) (n : Int) (w0 : (Lit.int .u32 a).wf = true) (w1 : (Lit.int .u32 b).wf = true) (w2 : (Lit.int .i64 id).wf = true) (w3 : (Lit.int .i64 most).wf = true) (v0 : (Lit.int .i64 us).wf = true) (v1 : (Lit.int .i64 ud).wf = true) (v3 : body.size ≤ maxLen) (v4 : (Lit.int .i64 n).wf = true) :
    ∃ k, gangwaylaw20_StationSpoilt.f k a b id most us ud nosum body n = some true := by
  have b0 := bounds_u32 w0
  have b1 := bounds_u32 w1
  obtain ⟨a, rfl⟩ := Int.eq_ofNat_of_zero_le b0.1
  obtain ⟨b, rfl⟩ := Int.eq_ofNat_of_zero_le b1.1
  have ha : a < 4294967296 := by omega
  have hb : b < 4294967296 := by omega
  refine Ev.rounds ?_
  unfold gangwaylaw20_StationSpoilt.f
  refine ev_pos (mn_nonneg (size_nat body) (by decide)) (ev_pos (mn_le (body.size : Int) 1400).1 ?_)
  have hm := cut_size body 1400
  generalize body.extract 0 (mn (body.size : Int) 1400).toNat = s at *
  refine ev_succ ?_
  simp only [gangwaylaw20_StationSpoilt.j0]
  refine Ev.bind (make_ev ha hb us 4789 nosum s id 65536) ?_
  by_cases hok : uok us 4789 s = true
  · rw [smake_ok hok (by omega)]
    have hz := spkt_size a b us 4789 nosum s id
    have q0 := (spkt_tells hok ha hb nosum id (⟨#[]⟩ : ByteArray)).1
    rw [append_none] at q0
    have q1 : ∀ k : Nat, k < 28 + s.size → iwrong ((spkt a b us 4789 nosum s id).extract 0 k) = 60 := fun k hk => made_cut hok ha hb nosum id hk
    generalize spkt a b us 4789 nosum s id = t at *
    dsimp only
    refine ev_pos rfl (ev_succ ?_)
    simp only [gangwaylaw20_StationSpoilt.j1]
    refine ev_neg (by simp only [decide_eq_true_eq]; omega) (ev_neg (by omega) (ev_succ ?_))
    simp only [gangwaylaw20_StationSpoilt.j2]
    rw [mask16]
    have hm : 0 ≤ n % 65536 := Int.emod_nonneg _ (by decide)
    have ht1 : Int.tmod (n % 65536) (t.size : Int) = (n % 65536) % (t.size : Int) := Int.tmod_eq_emod_of_nonneg hm
    have ht2 : Int.tmod (n % 65536) 20 = (n % 65536) % 20 := Int.tmod_eq_emod_of_nonneg hm
    rw [ht1, ht2]
    clear ht1 ht2
    have h0 := Int.emod_nonneg (n % 65536) (show (20 : Int) ≠ 0 by decide)
    have h1 := Int.emod_lt_of_pos (n % 65536) (show (0 : Int) < 20 by decide)
    have g0 := Int.emod_nonneg (n % 65536) (show ((t.size : Nat) : Int) ≠ 0 by omega)
    have g1 := Int.emod_lt_of_pos (n % 65536) (show (0 : Int) < ((t.size : Nat) : Int) by omega)
    generalize (n % 65536) % 20 = i at *
    generalize (n % 65536) % ((t.size : Nat) : Int) = l at *
    clear hm
    obtain ⟨i, rfl⟩ := Int.eq_ofNat_of_zero_le h0
    obtain ⟨l, rfl⟩ := Int.eq_ofNat_of_zero_le g0
    simp only [Int.toNat_natCast]
    refine ev_pos g0 (ev_pos (by omega) (Ev.bind (take_ev (mac := 2) (ip := b) (dst := 2) (src := 6) (s := t.extract 0 l) (by omega) (by rw [ByteArray.size_extract]; omega) false 0 false 0 2048) ?_))
    rw [stake_ip (Or.inl rfl), wrong_taken (by rw [q1 l (by omega)]; decide)]
    refine ev_succ ?_
    simp only [gangwaylaw20_StationSpoilt.j3]
    have hi1 : wrap64 ((i : Int) + 1) = ((i + 1 : Nat) : Int) := (w64 (by omega) (by omega)).trans (by omega)
    rw [hi1]
    clear hi1
    have hb8 : bt t (i : Int) = (((nb t).getD i 0 : Nat) : Int) := bt_at_nb t i
    have hx8 := i_getD_byte (nb_byt t) i
    rw [hb8]
    obtain ⟨x, hx1, hx2, hx3⟩ := byte_other n ((nb t).getD i 0) hx8
    rw [hx1]
    simp only [Int.toNat_natCast]
    have hx : strOfNums [(x : Int)] = bs [x] := by
      rw [nums_bs _ (by simp; omega)]
      rfl
    have hzx : (bs [x]).size = 1 := bs_size _
    refine ev_pos h0 (ev_pos (by omega) (ev_pos (by omega) (ev_some ?_)))
    rw [hx]
    have z1 : (t.extract 0 i).size = i := by
      rw [ByteArray.size_extract]
      omega
    have z2 : (t.extract (i + 1) t.size).size = t.size - (i + 1) := by
      rw [ByteArray.size_extract]
      omega
    have hset := set_bytes (t := t) (i := i) (c := x) (by omega) hx2
    refine ev_pos (by rw [z1, hzx]; omega) (ev_pos (by omega) (ev_pos (by omega) (ev_pos (by rw [ByteArray.size_append, z1, hzx, z2]; omega) ?_)))
    have hzs : ((t.extract 0 i ++ bs [x]) ++ t.extract (i + 1) t.size).size = t.size := by
      rw [ByteArray.size_append, ByteArray.size_append, z1, hzx, z2]
      omega
    generalize (t.extract 0 i ++ bs [x]) ++ t.extract (i + 1) t.size = u at *
    have hl := nb_len t
    have hw : iwrong u ≠ 0 := by
      intro h
      obtain ⟨_, _, q3, _⟩ := iwrong_ok h
      obtain ⟨_, _, p3, _⟩ := iwrong_ok q0
      rw [hset] at q3
      exact hx3 (spoilt_wrong (nb_byt t) (by omega) (by omega) hx2 p3 q3)
    refine Ev.bind (take_ev (mac := 2) (ip := b) (dst := 2) (src := 6) (s := u) (by omega) (by omega) false 0 false 0 2048) ?_
    rw [stake_ip (Or.inl rfl), wrong_taken hw]
    exact ev_pos (by decide +kernel) (ev_pos (by decide +kernel) (Ev.bind station_fixed_ev (ev_now rfl)))
  · rw [smake_none hok]
    refine ev_neg (by decide) (ev_succ ?_)
    simp only [gangwaylaw20_StationSpoilt.j1]
    exact ev_pos trivial (ev_neg (by decide) (Ev.bind station_fixed_ev (ev_now rfl)))
end Go.Proofs.YtbkgaplldfilnaaDoor.Pure
