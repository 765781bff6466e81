/- ArpTells: what is told is told to who asked, of what was asked; the frames that ask, and tell, may be: for every input. -/
import Derived.Test.YtjlikmonnnbnaaaDoorArp
import Derived.OpenShut
import Derived.Test.YtjlikmonnnbnaaaDoorPx20
import Derived.Test.YtjlikmonnnbnaaaDoorPx21
import Derived.Test.YtjlikmonnnbnaaaDoorPx22
import Derived.Test.YtjlikmonnnbnaaaDoorPx23
import Derived.Test.YtjlikmonnnbnaaaDoorPx24
namespace Go.Proofs.YtjlikmonnnbnaaaDoor.Pure
set_option linter.unusedSimpArgs false
set_option linter.unusedVariables false
open Go Go.RowKit Go.Proofs.YtjlikmonnnbnaaaDoorW.PrintWords Go.Proofs.YtjlikmonnnbnaaaDoorW.PrintLast Go.Proofs.YtjlikmonnnbnaaaDoorW.PrintMore Go.Proofs.YtjlikmonnnbnaaaDoor.L Go.Proofs.YtjlikmonnnbnaaaDoor.P

theorem mask48 (m : Nat) (h : m < 18446744073709551616) : Go.bits .and .u64 (m : Int) 281474976710655 = ((m % 281474976710656 : Nat) : Int) := by
  have e0 : Go.bits .and .u64 (m : Int) 281474976710655 = IntKind.u64.wrap ((BitVec.ofInt 64 (m : Int) &&& BitVec.ofInt 64 281474976710655).toNat : Int) := rfl
  rw [e0, BitVec.toNat_and]
  have e1 : (BitVec.ofInt 64 (m : Int)).toNat = m := by
    rw [BitVec.ofInt_natCast, BitVec.toNat_ofNat]
    exact Nat.mod_eq_of_lt (by omega)
  have e2 : (BitVec.ofInt 64 (281474976710655 : Int)).toNat = 2 ^ 48 - 1 := by decide
  have e3 : (2 : Nat) ^ 48 = 281474976710656 := by decide
  rw [e1, e2, Nat.and_two_pow_sub_one_eq_mod, e3]
  exact u64w (by omega) (by omega)
theorem eput_ev {v n : Nat} (h1 : 1 ≤ n) (h8 : n ≤ 8) (hv : v < 256 ^ n) : Ev (fun k => ether_put.f k (v : Int) (n : Int)) (bs (be n v)) := by
  unfold ether_put.f
  exact Ev.bind (put_ev h1 h8 hv) (ev_now rfl)
theorem echeck_ev {d s : Nat} {body : ByteArray} (hd : d < 281474976710656) (hs : s < 281474976710656) (hb : body.size = 28) : Ev (fun k => ether_Check.f k (d : Int) (s : Int) false 0 false 0 2054 body) 0 := by
  unfold ether_Check.f
  refine ev_pos (by decide) (ev_pos (by decide) ?_)
  refine ev_succ ?_
  simp only [ether_Check.j0]
  refine ev_neg (by omega) (ev_neg (by omega) ?_)
  unfold ether_tag.f
  rw [if_neg (by decide)]
  refine ev_some (ev_pos (by decide) (ev_neg (by decide) ?_))
  refine ev_succ ?_
  simp only [ether_Check.j1]
  refine ev_neg (by decide) (ev_neg (by decide) ?_)
  refine ev_succ ?_
  simp only [ether_Check.j2]
  refine ev_neg (by decide) ?_
  unfold ether_size.f
  rw [if_neg (by decide), hb, w64 (by omega) (by omega)]
  exact ev_some (ev_neg (by omega) (ev_now rfl))
theorem ebuild_ev {d s : Nat} {body : ByteArray} (hd : d < 281474976710656) (hs : s < 281474976710656) (hb : body.size = 28) : ∃ t : ByteArray, Ev (fun k => ether_Build.f k (d : Int) (s : Int) false 0 false 0 2054 body) (t, 0) := by
  have e6 : (256 : Nat) ^ 6 = 281474976710656 := by decide
  refine ⟨bs (be 6 d) ++ bs (be 6 s) ++ bs (be 2 2054) ++ body, ?_⟩
  unfold ether_Build.f
  refine Ev.bind (echeck_ev hd hs hb) (ev_pos rfl ?_)
  refine Ev.bind (eput_ev (n := 6) (by decide) (by decide) (by omega)) (Ev.bind (eput_ev (n := 6) (by decide) (by decide) (by omega)) ?_)
  refine ev_pos (by simp only [bs_size, be_len]; decide) (ev_neg (by decide) (ev_neg (by decide) ?_))
  refine Ev.bind (eput_ev (v := 2054) (n := 2) (by decide) (by decide) (by decide)) ?_
  exact ev_pos (by simp only [ByteArray.size_append, bs_size, be_len]; decide) (ev_pos (by simp only [ByteArray.size_append, bs_size, be_len]; omega) (ev_now rfl))
theorem ArpTells (mac ip want mac2 : Int) (w1 : (Lit.int .u64 mac).wf = true) (w2 : (Lit.int .u32 ip).wf = true) (w3 : (Lit.int .u32 want).wf = true) (w4 : (Lit.int .u64 mac2).wf = true) :
    ∃ k, gangwaylaw05_ArpTells.f k mac ip want mac2 = some true := by
  have b1 := bounds_u64 w1
  have b2 := bounds_u32 w2
  have b3 := bounds_u32 w3
  have b4 := bounds_u64 w4
  obtain ⟨mac, rfl⟩ := Int.eq_ofNat_of_zero_le b1.1
  obtain ⟨ip, rfl⟩ := Int.eq_ofNat_of_zero_le b2.1
  obtain ⟨want, rfl⟩ := Int.eq_ofNat_of_zero_le b3.1
  obtain ⟨mac2, rfl⟩ := Int.eq_ofNat_of_zero_le b4.1
  refine Ev.rounds ?_
  unfold gangwaylaw05_ArpTells.f
  rw [mask48 _ (by omega)]
  have hm : mac % 281474976710656 < 281474976710656 := Nat.mod_lt _ (by decide)
  generalize mac % 281474976710656 = m at *
  refine ev_succ ?_
  simp only [gangwaylaw05_ArpTells.j0]
  have a1 := aask_ev (mac := m) (ip := ip) (want := want) (by omega) (by omega) (by omega)
  rw [Nat.mod_eq_of_lt hm] at a1
  refine Ev.bind a1 (Ev.bind (aof_ev (by rw [abs_size]; decide) _ _ _ _ _ _) ?_)
  rw [rown_eq (by omega)]
  refine ev_some ?_
  by_cases ho : ownN m = true
  · have k1 : aok ((1 : Nat) : Int) m 0 = true := aok_iff.2 ⟨Or.inl rfl, ho, by decide⟩
    rw [abuilt_parse0 k1 (by omega) (by omega), ho]
    refine ev_neg (by simp) (ev_pos rfl ?_)
    refine Ev.bind (atell_ev (by omega) (by omega) (by omega) (by omega)) ?_
    unfold atell
    by_cases h2 : ownN mac2 = true
    · obtain ⟨g1, g2⟩ := ownN_lt h2
      have k2 : aok ((2 : Nat) : Int) mac2 m = true := aok_iff.2 ⟨Or.inr rfl, h2, by omega⟩
      rw [if_pos ⟨rfl, k1, h2⟩]
      refine ev_pos rfl (Ev.bind (aof_ev (by rw [abs_size]; decide) _ _ _ _ _ _) ?_)
      rw [abuilt_parse0 k2 (by omega) (by omega)]
      obtain ⟨t1, q1⟩ := ebuild_ev (d := 281474976710655) (s := m) (body := bs (abytes 1 m ip 0 want)) (by decide) hm (abs_size _ _ _ _ _)
      obtain ⟨t2, q2⟩ := ebuild_ev (d := m) (s := mac2) (body := bs (abytes 2 mac2 want m ip)) hm (by omega) (abs_size _ _ _ _ _)
      refine Ev.bind q1 (Ev.bind q2 ?_)
      exact ev_pos rfl (ev_pos rfl (ev_pos rfl (ev_pos rfl (ev_pos rfl (ev_pos rfl (ev_pos rfl (ev_pos rfl (Ev.bind arp_fixed_ev (ev_now rfl)))))))))
    · rw [if_neg (fun h => h2 h.2.2)]
      refine ev_neg (by decide) ?_
      rw [rown_eq (by omega)]
      exact ev_some (ev_neg h2 (ev_pos (by decide +kernel) (Ev.bind arp_fixed_ev (ev_now rfl))))
  · have e : aparse (bs (abytes 1 m ip 0 want)) = (0, 0, 0, 0, 0, 51) := by
      have hb : nb (bs (abytes 1 m ip 0 want)) = abytes 1 m ip 0 want := nb_bs (abytes_byt _ _ _ _ _)
      have e6 : (256 : Nat) ^ 6 = 281474976710656 := by decide
      have f2 : numAt (abytes 1 m ip 0 want) 8 6 = m := by
        unfold abytes
        rw [← List.append_assoc]
        exact a_numAt_be _ (by simp [be_len]) (by omega)
      unfold aparse
      rw [hb, f2, if_neg (by rw [abs_size]; decide), if_neg (fun h => ho (aok_iff.1 h.2).2.1)]
    rw [e, Bool.eq_false_iff.2 ho]
    exact ev_neg (by simp) (ev_neg (by simp) (Ev.bind arp_fixed_ev (ev_now rfl)))
end Go.Proofs.YtjlikmonnnbnaaaDoor.Pure
