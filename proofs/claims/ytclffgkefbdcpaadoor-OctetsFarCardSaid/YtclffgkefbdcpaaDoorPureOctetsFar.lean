/- OctetsFar: at no place behind the bytes, or ahead of them, there is a number, or a part but the empty one at the end: for every input (of at most 1000 bytes, as the statement cuts them). -/
import Derived.Test.YtclffgkefbdcpaaDoorOctets
import Derived.OpenShut
import Derived.Test.YtclffgkefbdcpaaDoorPx16
namespace Go.Proofs.YtclffgkefbdcpaaDoor.Pure
set_option linter.unusedSimpArgs false
set_option linter.unusedVariables false
open Go Go.RowKit Go.Proofs.YtclffgkefbdcpaaDoorW.PrintWords Go.Proofs.YtclffgkefbdcpaaDoorW.PrintLast Go.Proofs.YtclffgkefbdcpaaDoorW.PrintMore Go.Proofs.YtclffgkefbdcpaaDoor.L Go.Proofs.YtclffgkefbdcpaaDoor.P

theorem OctetsFar (s : ByteArray) (more : Int) (hs : s.size ≤ 140737488351232) (w1 : (Lit.int .i64 more).wf = true) : ∃ k, gangwaylaw01_OctetsFar.f k s more = some true := by
  refine Ev.rounds ?_
  unfold gangwaylaw01_OctetsFar.f
  refine ev_pos (mn_nonneg (size_nat s) (by decide)) (ev_pos (mn_le (s.size : Int) 1000).1 ?_)
  have hm := cut_size s 1000
  generalize s.extract 0 (mn (s.size : Int) 1000).toNat = s at *
  refine ev_succ ?_
  simp only [gangwaylaw01_OctetsFar.j0]
  rw [mask16]
  have h0 : 0 ≤ more % 65536 := Int.emod_nonneg _ (by decide)
  have h1 : more % 65536 < 65536 := Int.emod_lt_of_pos _ (by decide)
  rw [w64 (x := (s.size : Int) + more % 65536) (by omega) (by omega)]
  refine ev_succ ?_
  simp only [gangwaylaw01_OctetsFar.j1]
  rw [mask16, w64 (x := (-1) - more % 65536) (by omega) (by omega)]
  generalize more % 65536 = m at *
  refine Ev.bind (get_short (by decide) (by decide) (by omega) (by omega) (by omega)) (Ev.bind (get_ahead (by decide) (by decide) (by omega) (by omega)) ?_)
  refine ev_succ ?_
  simp only [gangwaylaw01_OctetsFar.j2]
  rw [cut_eq (by omega)]
  refine ev_some ?_
  by_cases h : m = 0
  · subst h
    have e : gcut s ((s.size : Int) + 0) 0 = (s.extract s.size s.size, 0) := by
      unfold gcut
      rw [if_neg (by omega), if_neg (by omega), if_neg (by omega), if_neg (by omega)]
      have : ((s.size : Int) + 0).toNat = s.size := by omega
      rw [Int.add_zero, Int.add_zero, Int.toNat_natCast]
    have z : (s.extract s.size s.size).toList = ([] : List UInt8) := by
      have : s.extract s.size s.size = (⟨#[]⟩ : ByteArray) := nb_inj (by rw [nb_extract, List.drop_of_length_le (by rw [List.length_take, nb_len]; omega)]; rfl)
      rw [this]
      decide +kernel
    rw [e]
    exact ev_neg (by omega) (ev_pos trivial (ev_pos trivial (ev_pos z (ev_pos rfl (Ev.bind octets_fixed_ev (ev_now rfl))))))
  · have e : gcut s ((s.size : Int) + m) 0 = ((⟨#[]⟩ : ByteArray), 10) := by
      unfold gcut
      rw [if_neg (by omega), if_neg (by omega), if_pos (by omega)]
    rw [e]
    exact ev_pos (by omega) (ev_pos trivial (ev_pos trivial (ev_pos (by decide +kernel) (ev_pos rfl (Ev.bind octets_fixed_ev (ev_now rfl))))))
end Go.Proofs.YtclffgkefbdcpaaDoor.Pure
