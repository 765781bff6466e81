/- StationBack: what is made for an address is taken there, from where it came, as it was, whatever stands behind; by another one it is not: for every input (of bodies of at most 1400 bytes, and at most 100 bytes behind, as the statement cuts them). -/
import Derived.Test.YtbkgaplldfilnaaDoorStationPlain
import Derived.OpenShut
import Derived.Test.YtbkgaplldfilnaaDoorPx45
namespace Go.Proofs.YtbkgaplldfilnaaDoor.Pure
set_option linter.unusedSimpArgs false
set_option linter.unusedVariables false
open Go Go.RowKit Go.Proofs.YtbkgaplldfilnaaDoorW.PrintWords Go.Proofs.YtbkgaplldfilnaaDoorW.PrintLast Go.Proofs.YtbkgaplldfilnaaDoorW.PrintMore Go.Proofs.YtbkgaplldfilnaaDoor.L Go.Proofs.YtbkgaplldfilnaaDoor.P

theorem StationBack (a b id most us ud : Int) (nosum : Bool) (body more : ByteArray) (w0 : (Lit.int .u32 a).wf = true) (w1 : (Lit.int .u32 b).wf = true) (w2 : (Lit.int .i64 id).wf = true) (w3 : (Lit.int .i64 most).wf = true) (v0 : (Lit.int .i64 us).wf = true) (v1 : (Lit.int .i64 ud).wf = true) (v3 : body.size ≤ maxLen) (v4 : more.size ≤ 140737488351232) :
    ∃ k, gangwaylaw20_StationBack.f k a b id most us ud nosum body more = some true := by
  have b0 := bounds_u32 w0
  have b1 := bounds_u32 w1
  obtain ⟨a, rfl⟩ := Int.eq_ofNat_of_zero_le b0.1
  obtain ⟨b, rfl⟩ := Int.eq_ofNat_of_zero_le b1.1
  have ha : a < 4294967296 := by omega
  have hb : b < 4294967296 := by omega
  refine Ev.rounds ?_
  unfold gangwaylaw20_StationBack.f
  refine ev_pos (mn_nonneg (size_nat body) (by decide)) (ev_pos (mn_le (body.size : Int) 1400).1 ?_)
  have hm := cut_size body 1400
  generalize body.extract 0 (mn (body.size : Int) 1400).toNat = s at *
  refine ev_succ ?_
  simp only [gangwaylaw20_StationBack.j0]
  refine ev_pos (mn_nonneg (size_nat more) (by decide)) (ev_pos (mn_le (more.size : Int) 100).1 ?_)
  have hn := cut_size more 100
  generalize more.extract 0 (mn (more.size : Int) 100).toNat = t at *
  refine ev_succ ?_
  simp only [gangwaylaw20_StationBack.j1]
  refine Ev.bind (make_ev ha hb us 4789 nosum s id 65536) ?_
  by_cases hok : uok us 4789 s = true
  · rw [smake_ok hok (by omega)]
    have hz := spkt_size a b us 4789 nosum s id
    have q1 := made_taken hok ha hb nosum id t
    have hc : ∃ c : Nat, ((b : Int) + 1) % 4294967296 = (c : Int) ∧ b ≠ c := ⟨(b + 1) % 4294967296, by omega, by omega⟩
    obtain ⟨c, hc1, hc2⟩ := hc
    have q2 := made_other hok ha hb hc2 nosum id t
    rw [if_pos rfl] at q1
    dsimp only
    rw [hc1]
    have hzz : (spkt a b us 4789 nosum s id ++ t).size ≤ 1000000 := by
      rw [ByteArray.size_append, hz]
      omega
    refine ev_pos rfl (ev_pos (by rw [hz]; omega) ?_)
    generalize spkt a b us 4789 nosum s id ++ t = x at *
    refine Ev.bind (take_ev (mac := 2) (ip := b) (dst := 2) (src := 6) (s := x) (by omega) hzz false 0 false 0 2048) ?_
    refine Ev.bind (take_ev (mac := 2) (ip := c) (dst := 2) (src := 6) (s := x) (by omega) hzz false 0 false 0 2048) ?_
    refine Ev.bind (take_ev (mac := 2) (ip := b) (dst := 281474976710655) (src := 6) (s := x) (by omega) hzz false 0 false 0 2048) ?_
    rw [stake_ip (Or.inl rfl), stake_ip (Or.inl rfl), stake_ip (Or.inr rfl), q1, q2]
    exact ev_pos (by simp) (ev_pos (by simp) (ev_pos (by simp) (ev_pos (by decide +kernel) (Ev.bind station_fixed_ev (ev_now rfl)))))
  · rw [smake_none hok]
    exact ev_neg (by decide) (ev_pos (by decide +kernel) (Ev.bind station_fixed_ev (ev_now rfl)))
end Go.Proofs.YtbkgaplldfilnaaDoor.Pure
