/- VxlanFlags: without its bit no bytes are one, whatever the others; with it all of eight bytes and more are: for every input (of at most 1700 bytes, as the statement cuts them). -/
import Derived.Test.YthgdphfblajijaaDoorVxlan
import Derived.Test.YthgdphfblajijaaDoorPx13
namespace Go.Proofs.YthgdphfblajijaaDoor.Pure
set_option linter.unusedSimpArgs false
set_option linter.unusedVariables false
open Go Go.RowKit Go.Proofs.YthgdphfblajijaaDoorW.PrintWords Go.Proofs.YthgdphfblajijaaDoorW.PrintLast Go.Proofs.YthgdphfblajijaaDoorW.PrintMore Go.Proofs.YthgdphfblajijaaDoor.L Go.Proofs.YthgdphfblajijaaDoor.P

theorem VxlanFlags : gangwaylaw08_VxlanFlags.Pure := by
  intro s _
  refine Ev.rounds ?_
  unfold gangwaylaw08_VxlanFlags.f
  have h1 := mn_le (s.size : Int) 1700
  have h2 := mn_nonneg (size_nat s) (show (0 : Int) ≤ 1700 by decide)
  refine ev_pos h2 (ev_pos h1.1 ?_)
  have hs : (s.extract 0 (mn (s.size : Int) 1700).toNat).size ≤ 1700 := cut_size s 1700
  generalize s.extract 0 (mn (s.size : Int) 1700).toNat = s at *
  have hby := nb_byt s
  have hb := getD_byte hby 0
  have hn := numAt_lt hby 4 3
  have h3 : (256 : Nat) ^ 3 = 16777216 := by decide
  refine ev_succ ?_
  simp only [gangwaylaw08_VxlanFlags.j0]
  refine Ev.bind (parse_ev (by omega)) ?_
  unfold vparse
  by_cases h0 : s.size < 8
  · rw [if_pos h0]
    refine ev_pos (by omega) (ev_pos rfl ?_)
    exact Ev.bind vxlan_fixed_ev (ev_now rfl)
  · rw [if_neg h0]
    refine ev_neg (by omega) (ev_pos (by omega) ?_)
    rw [bt_nb, show (0 : Int).toNat = 0 from rfl, Int.tdiv_eq_ediv_of_nonneg (by omega)]
    by_cases hz : (nb s).getD 0 0 / 8 % 2 = 0
    · rw [if_pos hz]
      have e : (((((nb s).getD 0 0 : Nat) : Int) / 8 % 256 % 2) == 1) = false := by
        rw [beq_eq_false_iff_ne]
        omega
      rw [e]
      refine ev_succ ?_
      simp only [gangwaylaw08_VxlanFlags.j1]
      refine ev_neg (by decide) (ev_neg (by decide) (ev_pos (by first | rfl | trivial | decide +kernel) (ev_pos (by first | rfl | trivial | decide +kernel) (ev_pos (by first | rfl | trivial | decide +kernel) ?_))))
      refine Ev.bind vxlan_fixed_ev (ev_succ ?_)
      simp only [gangwaylaw08_VxlanFlags.j3]
      exact ev_now rfl
    · rw [if_neg hz]
      have e : (((((nb s).getD 0 0 : Nat) : Int) / 8 % 256 % 2) == 1) = true := by
        rw [beq_iff_eq]
        omega
      rw [e]
      refine ev_succ ?_
      simp only [gangwaylaw08_VxlanFlags.j1]
      refine ev_neg (by decide) (ev_pos (by first | rfl | trivial | decide +kernel) (ev_pos (by omega) (ev_pos (by omega) (ev_pos (by omega) (ev_pos (by first | rfl | trivial | decide +kernel) ?_)))))
      refine Ev.bind vxlan_fixed_ev (ev_succ ?_)
      simp only [gangwaylaw08_VxlanFlags.j2]
      exact ev_now rfl
end Go.Proofs.YthgdphfblajijaaDoor.Pure
