/- ArpBack: what is built is parsed as it was, whatever stands behind; what is parsed, built, is the first 28 bytes: for every input (of at most 100 bytes, as the statement cuts them). -/
import Derived.Test.YtjlikmonnnbnaaaDoorArp
import Derived.OpenShut
import Derived.Test.YtjlikmonnnbnaaaDoorPx18
namespace Go.Proofs.YtjlikmonnnbnaaaDoor.Pure
set_option linter.unusedSimpArgs false
set_option linter.unusedVariables false
open Go Go.RowKit Go.Proofs.YtjlikmonnnbnaaaDoorW.PrintWords Go.Proofs.YtjlikmonnnbnaaaDoorW.PrintLast Go.Proofs.YtjlikmonnnbnaaaDoorW.PrintMore Go.Proofs.YtjlikmonnnbnaaaDoor.L Go.Proofs.YtjlikmonnnbnaaaDoor.P

theorem back_j1 {s : ByteArray} (hs : s.size ≤ 100) : Ev (fun k => gangwaylaw05_ArpBack.j1 k s) true := by
  refine ev_succ ?_
  simp only [gangwaylaw05_ArpBack.j1]
  refine Ev.bind (aparse_ev (by omega)) ?_
  by_cases h0 : s.size < 28
  · have e : aparse s = (0, 0, 0, 0, 0, 50) := by
      unfold aparse
      rw [if_pos h0]
    rw [e]
    exact ev_neg (by decide) (ev_pos (by decide) (Ev.bind arp_fixed_ev (ev_now rfl)))
  · by_cases h1 : ahas s = true ∧ aok ((numAt (nb s) 6 2 : Nat) : Int) (numAt (nb s) 8 6) (numAt (nb s) 18 6) = true
    · have e := aparse_ok h0 h1
      have e2 : aparse s = (((numAt (nb s) 6 2 : Nat) : Int), ((numAt (nb s) 8 6 : Nat) : Int), ((numAt (nb s) 14 4 : Nat) : Int), ((numAt (nb s) 18 6 : Nat) : Int), ((numAt (nb s) 24 4 : Nat) : Int), 0) := by
        unfold aparse
        rw [if_neg h0, if_pos h1]
      obtain ⟨l1, l2, l3, l4, l5⟩ := anums s
      rw [e2]
      refine ev_pos rfl (Ev.bind (abuild_ev (by omega) (by omega) (by omega)) ?_)
      unfold abuild
      rw [if_pos h1.2, Int.toNat_natCast, e]
      refine ev_pos rfl (ev_pos (by omega) (ev_pos (by decide) (ev_pos (by omega) (ev_pos rfl (Ev.bind arp_fixed_ev ?_)))))
      refine ev_succ ?_
      simp only [gangwaylaw05_ArpBack.j2]
      exact ev_now rfl
    · have e : aparse s = (0, 0, 0, 0, 0, 51) := by
        unfold aparse
        rw [if_neg h0, if_neg h1]
      rw [e]
      exact ev_neg (by decide) (ev_pos (by decide) (Ev.bind arp_fixed_ev (ev_now rfl)))
theorem ArpBack (op sm si tm ti : Int) (s : ByteArray) (w0 : (Lit.int .i64 op).wf = true) (w1 : (Lit.int .u64 sm).wf = true) (w2 : (Lit.int .u32 si).wf = true) (w3 : (Lit.int .u64 tm).wf = true) (w4 : (Lit.int .u32 ti).wf = true) (hs : s.size ≤ 140737488351232) :
    ∃ k, gangwaylaw05_ArpBack.f k op sm si tm ti s = some true := by
  have b1 := bounds_u64 w1
  have b2 := bounds_u32 w2
  have b3 := bounds_u64 w3
  have b4 := bounds_u32 w4
  obtain ⟨sm, rfl⟩ := Int.eq_ofNat_of_zero_le b1.1
  obtain ⟨si, rfl⟩ := Int.eq_ofNat_of_zero_le b2.1
  obtain ⟨tm, rfl⟩ := Int.eq_ofNat_of_zero_le b3.1
  obtain ⟨ti, rfl⟩ := Int.eq_ofNat_of_zero_le b4.1
  refine Ev.rounds ?_
  unfold gangwaylaw05_ArpBack.f
  have h1 := mn_le (s.size : Int) 100
  have h2 := mn_nonneg (size_nat s) (show (0 : Int) ≤ 100 by decide)
  refine ev_pos h2 (ev_pos h1.1 ?_)
  have hm := cut_size s 100
  generalize s.extract 0 (mn (s.size : Int) 100).toNat = s at *
  refine ev_succ ?_
  simp only [gangwaylaw05_ArpBack.j0]
  refine Ev.bind (abuild_ev (by omega) (by omega) (by omega)) ?_
  unfold abuild
  by_cases hok : aok op sm tm = true
  · rw [if_pos hok]
    obtain ⟨n, rfl, hn, _, _⟩ := aok_nat hok
    rw [Int.toNat_natCast]
    refine ev_pos rfl (ev_pos (by dsimp only; rw [abs_size]; omega) ?_)
    refine Ev.bind (aparse_ev (by rw [ByteArray.size_append, abs_size]; omega)) ?_
    rw [abuilt_parse hok (by omega) (by omega)]
    exact ev_pos rfl (ev_neg (by simp) (ev_pos (by dsimp only; rw [abs_size]; rfl) (back_j1 hm)))
  · rw [if_neg hok]
    exact ev_neg (by decide) (back_j1 hm)
end Go.Proofs.YtjlikmonnnbnaaaDoor.Pure
